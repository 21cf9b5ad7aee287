/- The law holds for every input. No condition. -/
import Derived.Test.YtbnhmfnagdgcmaaGreatDoorTl05
import Derived.Lib.AtoiTie
import Derived.Test.YtbnhmfnagdgcmaaGreatDoorCards
import Derived.Test.YtbnhmfnagdgcmaaGreatDoorTie
import Derived.JoinedCond
import Derived.Deep.DeepWitnessRowRef
import Derived.Lay
import Derived.ProofKit
set_option linter.unusedVariables false
set_option linter.unusedSectionVars false
set_option linter.unusedSimpArgs false
set_option maxHeartbeats 4000000
namespace Go.Proofs.YtbnhmfnagdgcmaaGreatDoor
open Go Go.RowKit
abbrev yN:=@_root_.Nat.mul_le_mul
abbrev y9:=@_root_.List.getD_eq_getElem?_getD
abbrev uw:=@_root_.List.mem_flatMap
abbrev uy:=@_root_.Nat.pow_le_pow_right
def lensP (m:Model):Bool:=(((((((decide (8<(m.sorts.length:Int)))||(decide (6<(m.tables.length:Int))))||(decide (20<(m.families.length:Int))))||(decide (60<(m.constraints.length:Int))))||(decide (8<(m.operations.length:Int))))||(decide (30<(m.actions.length:Int))))||(decide (12<(m.hides.length:Int))))
def tabF (t:Table):Bool:=decide (t.name.length≤40)&&decide (t.columns.length≤12)
def opF (o:Operation):Bool:=decide (o.name.length≤40)&&decide (o.sorts.length≤6)
def actF (a:Action):Bool:=((decide (a.arguments.length≤6)&&decide (a.effect.delta.length≤20))&&(decide (a.effect.hold.length≤10)&&decide (a.effect.updates.length≤40)))&&a.effect.hold.all λr=>decide (r.terms.length≤20)
def zgN (m:Model):Bool:=!lensP m&&(m.tables.all tabF&&(m.families.all (λs=>decide (s.length≤40))&&(m.constraints.all (λc=>decide (c.row.terms.length≤20))&&(m.operations.all opF&&m.actions.all actF))))
theorem not_lt_le {a b:Nat}:decide ((a:Int)<(b:Int)) = !decide (b≤a):=by rw [← decide_not];exact decide_eq_decide.2 (by omega)
theorem ref13_Bounded_eq {n:Nat} {m:Model} (hn:1000000≤n):zq n m=some (zgN m):=by
 unfold zq zgN;have hl:(((((((decide (8<(m.sorts.length:Int)))||(decide (6<(m.tables.length:Int))))||(decide (20<(m.families.length:Int))))||(decide (60<(m.constraints.length:Int))))||(decide (8<(m.operations.length:Int))))||(decide (30<(m.actions.length:Int))))||(decide (12<(m.hides.length:Int))))=lensP m:=rfl;rw [hl];cases hlen:lensP m with
 | true=>simp [grd]
 | false=>
  simp only [lensP,ud,yF] at hlen;obtain ⟨⟨⟨⟨⟨⟨b1,b2⟩,b3⟩,b4⟩,b5⟩,b6⟩,b7⟩:=hlen;have hfew:zcu n m.sorts m.tables=some (m.tables.all tabF):=by
   have:=zay (body:=zcu.l1 n m.sorts m.tables) (l:=m.tables) (n:=n) (st:=λi=>(i:Int)) tabF (some false) (some true) (λrec i hi=>?_) (λrec=>?_) (by omega)
   ·simp only [Int.natCast_zero] at this;unfold zcu;rw [this];cases m.tables.all tabF <;> rfl
   ·simp only [zcu.l1,zo hi,if_true,za hi,ya,yj,yy,grd,yf,zc (i:=i) (by omega)];unfold tabF;by_cases h1:m.tables[i].name.length≤40
    ·by_cases h2:m.tables[i].columns.length≤12
     ·rw [if_neg (by simp;omega),if_pos (by simp [h1,h2])]
     ·rw [if_pos (by simp;omega),if_neg (by simp [h2])]
    ·rw [if_pos (by simp;omega),if_neg (by simp [h1])]
   ·simp [zcu.l1];omega
  rw [hfew];simp only [yj,yy,grd,if_true,yf,ut,ux,yE];cases m.tables.all tabF with
  | false=>simp
  | true=>
   rw [if_neg (by simp),yE];have h4:loopF (zq.l4 n m) n 0=some (m.actions.all actF):=by
    have:=zay (body:=zq.l4 n m) (l:=m.actions) (n:=n) (st:=λi=>(i:Int)) actF (some false) (some true) (λrec i hi=>?_) (λrec=>?_) (by omega)
    ·simp only [Int.natCast_zero] at this;rw [this];cases m.actions.all actF <;> rfl
    ·simp only [zq.l4,zo hi,if_true,za hi,ya];unfold actF;by_cases hx:((decide (m.actions[i].arguments.length≤6)&&decide (m.actions[i].effect.delta.length≤20))&&(decide (m.actions[i].effect.hold.length≤10)&&decide (m.actions[i].effect.updates.length≤40)))=true
     ·rw [hx,yE];simp only [yc,yd] at hx;rw [if_neg (by simp;omega)];have:=zay (body:=zq.l5 n i rec m.actions[i]) (l:=m.actions[i].effect.hold) (n:=n) (st:=λk=>(k:Int)) (λr=>decide (r.terms.length≤20)) (some false) (rec ((i+1:Nat):Int)) (λrec' k hk=>?_) (λrec'=>?_) (by omega)
      ·simpa using this
      ·simp only [zq.l5,zo hk,if_true,za hk,ya,zc (i:=k) (by omega)];by_cases h:m.actions[i].effect.hold[k].terms.length≤20
       ·rw [if_neg (by simp;omega),if_pos (by simp [h])]
       ·rw [if_pos (by simp;omega),if_neg (by simp [h])]
      ·simp only [zq.l5,zap,ye,if_false,zc (i:=i) (by omega)]
     ·rw [if_pos (by
       simp only [yc,yd] at hx;simp only [yz,yd];omega)]
      simp only [yH] at hx;rw [hx,uc,if_neg (by simp)]
    ·simp [zq.l4]
   have h3:loopF (zq.l3 n m) n 0=some (m.operations.all opF&&m.actions.all actF):=by
    have:=zay (body:=zq.l3 n m) (l:=m.operations) (n:=n) (st:=λi=>(i:Int)) opF (some false) (some (m.actions.all actF)) (λrec i hi=>?_) (λrec=>?_) (by omega)
    ·simp only [Int.natCast_zero] at this;rw [this];cases m.operations.all opF <;> rfl
    ·simp only [zq.l3,zo hi,if_true,za hi,ya,yj,yy,grd,yf,zc (i:=i) (by omega)];unfold opF;by_cases h1:m.operations[i].name.length≤40
     ·by_cases h2:m.operations[i].sorts.length≤6
      ·rw [if_neg (by simp;omega),if_pos (by simp [h1,h2])]
      ·rw [if_pos (by simp;omega),if_neg (by simp [h2])]
     ·rw [if_pos (by simp;omega),if_neg (by simp [h1])]
    ·simp only [zq.l3,zap,ye,if_false,h4]
   have h2:loopF (zq.l2 n m) n 0=some (m.constraints.all (λc=>decide (c.row.terms.length≤20))&&(m.operations.all opF&&m.actions.all actF)):=by
    have:=zay (body:=zq.l2 n m) (l:=m.constraints) (n:=n) (st:=λi=>(i:Int)) (λc=>decide (c.row.terms.length≤20)) (some false) (some (m.operations.all opF&&m.actions.all actF)) (λrec i hi=>?_) (λrec=>?_) (by omega)
    ·simp only [Int.natCast_zero] at this;rw [this];cases m.constraints.all (λc=>decide (c.row.terms.length≤20)) <;> rfl
    ·simp only [zq.l2,zo hi,if_true,za hi,ya,zc (i:=i) (by omega)];by_cases h:m.constraints[i].row.terms.length≤20
     ·rw [if_neg (by simp;omega),if_pos (by simp [h])]
     ·rw [if_pos (by simp;omega),if_neg (by simp [h])]
    ·simp only [zq.l2,zap,ye,if_false,h3]
   have:=zay (body:=zq.l1 n m) (l:=m.families) (n:=n) (st:=λi=>(i:Int)) (λs=>decide (s.length≤40)) (some false) (some (m.constraints.all (λc=>decide (c.row.terms.length≤20))&&(m.operations.all opF&&m.actions.all actF))) (λrec i hi=>?_) (λrec=>?_) (by omega)
   ·simp only [Int.natCast_zero] at this;rw [this];cases m.families.all (λs=>decide (s.length≤40)) <;> rfl
   ·simp only [zq.l1,zo hi,if_true,za hi,ya,zc (i:=i) (by omega)];by_cases h:m.families[i].length≤40
    ·rw [if_neg (by simp;omega),if_pos (by simp [h])]
    ·rw [if_pos (by simp;omega),if_neg (by simp [h])]
   ·simp only [zq.l1,zap,ye,if_false,h2]
theorem zg6 {m:Model} (h:zgN m=true):SmallM m:=by
 simp only [zgN,lensP,tabF,opF,actF,yc,yw,ud,yF,yo,yd] at h;obtain ⟨⟨⟨⟨⟨⟨⟨b1,b2⟩,b3⟩,b4⟩,b5⟩,b6⟩,b7⟩,c1,c2,c3,c4,c5⟩:=h;exact ⟨by omega,by omega,c1,by omega,c2,by omega,c3,by omega,c4,by omega,λa ha=>by
  obtain ⟨⟨⟨p1,p2⟩,p3,p4⟩,p5⟩:=c5 a ha;exact ⟨p1,p2,p3,p4,p5⟩,by omega⟩
def prodP:Int→List Range→Bool
 | _,[]=>true
 | p,r::l=>!decide (4096<mul64 p (add64 (sub64 r.hi r.lo) 1))&&prodP (mul64 p (add64 (sub64 r.hi r.lo) 1)) l
def zcB (m:Model):List Range:=if zaf m.sorts m.tables=true then zQ m.sorts true m.tables else []
def fewP (m:Model):Bool:=((zgN m&&decide (m.actions.length≤12))&&decide (m.constraints.length≤40))&&(m.actions.all (λa=>decide (a.effect.hold.length≤4))&&(decide ((zcB m).length≤12)&&prodP 1 (zcB m)))
theorem ref13_strict_eq {n:Nat} {m:Model} (hn:1000000≤n) (hS:SmallM m):zb5 n m=some (zcB m):=by
 have hs:=hS.sorts;have ht:=hS.tables;unfold zb5;rw [zeu hn (by omega) (by omega) (λt h=>by have:=hS.tab t h;omega)];rfl
theorem strictR_len {m:Model} (hS:SmallM m):(zcB m).length≤2592:=by
 have ht:=hS.tables;unfold zcB;split
 ·rename_i hL;obtain ⟨l1,l2,l3,l4⟩:=zag hL;have:=zct (sizes:=m.sorts) (s:=true) (l:=m.tables) λx hx=>(l4 x hx).2.2.2.2
  omega
 ·simp
theorem ref13_Few_eq {n:Nat} {m:Model} (hn:1000000≤n):zby n m=some (fewP m):=by
 unfold zby fewP;rw [ref13_Bounded_eq hn,ya];have e1:decide (12<(m.actions.length:Int)) = !decide (m.actions.length≤12):=not_lt_le (a:=12);have e2:decide (40<(m.constraints.length:Int)) = !decide (m.constraints.length≤40):=not_lt_le (a:=40);rw [e1,e2,← Bool.not_and,← Bool.not_and];cases hb:(zgN m&&decide (m.actions.length≤12)&&decide (m.constraints.length≤40)) with
 | false=>simp
 | true=>
  simp only [yc,yd] at hb;have hS:=zg6 hb.1.1;have hsl:=strictR_len hS;have T:(if (decide (12<((zcB m).length:Int)))=true then some false else loopF (zby.l2 n (zcB m)) n (1,0))=some (decide ((zcB m).length≤12)&&prodP 1 (zcB m)):=by
   by_cases h:(zcB m).length≤12
   ·rw [if_neg (by simp;omega),decide_eq_true h,yE];refine zbE (body:=zby.l2 n (zcB m)) (len:=(zcB m).length) (st:=λ(p:Int) i=>(p,(i:Int))) (g:=λi p=>some (prodP p ((zcB m).drop i))) (λ_ _=>True) (λrec i p hi _ hr=>?_) (λrec p _=>?_) n 0 1 (yp _) (by omega) trivial
    ·simp only [zby.l2,zo hi,if_true,za hi,ya,zc (i:=i) (by omega),hr _ trivial];rw [zn hi,prodP];cases decide (4096<mul64 p (add64 (sub64 (zcB m)[i].hi (zcB m)[i].lo) 1)) <;> simp
    ·simp [zby.l2,prodP]
   ·rw [if_pos (by simp;omega),decide_eq_false h,uc]
  have:=zay (body:=zby.l1 n m) (l:=m.actions) (n:=n) (st:=λi=>(i:Int)) (λa=>decide (a.effect.hold.length≤4)) (some false) (some (decide ((zcB m).length≤12)&&prodP 1 (zcB m))) (λrec i hi=>?_) (λrec=>?_) (by omega)
  ·simp only [Int.natCast_zero] at this;rw [if_neg (by simp),this];cases m.actions.all (λa=>decide (a.effect.hold.length≤4)) <;> simp
  ·simp only [zby.l1,zo hi,if_true,za hi,ya,zc (i:=i) (by omega)];by_cases h:m.actions[i].effect.hold.length≤4
   ·rw [if_neg (by simp;omega),if_pos (by simp [h])]
   ·rw [if_pos (by simp;omega),if_neg (by simp [h])]
  ·simp only [zby.l1,zap,ye,if_false,ref13_strict_eq hn hS,ya,T]
theorem fewP_small {m:Model} (h:fewP m=true):SmallM m:=by
 simp only [fewP,yc] at h;exact zg6 h.1.1.1
structure ValidM (m:Model):Prop where
 lay:zaf m.sorts m.tables=true
 fams:m.families.length≤24∧distP [] m.families=true
 cons:consP m (zQ m.sorts true m.tables)=true
 ops:opsP m=true
 acts:actsP m (zQ m.sorts true m.tables).length=true
 hid:hidesP m=true
theorem zcJ {m}:zdp m=true↔ValidM m:=by
 simp only [zdp,yc,yd];exact ⟨λ⟨⟨a,b,c⟩,d,e,f,g⟩=>⟨a,⟨b,c⟩,d,e,f,g⟩,λ⟨a,⟨b,c⟩,d,e,f,g⟩=>⟨⟨a,b,c⟩,d,e,f,g⟩⟩
def stepT (s:Nat) (L:List (List Int)):List (List Int):=L.flatMap λl=>(List.range s).map λe:Nat=>l++[(e:Int)]
def zeE (sizes:List Int):List Int→List (List Int)→List (List Int)
 | [],L=>L
 | c::cols,L=>zeE sizes cols (stepT (zcz sizes c).toNat L)
def zdD (sizes cols:List Int):List (List Int):=zeE sizes cols [[]]
theorem zhp (sizes):∀ (a b:List Int) (L:List (List Int)),zeE sizes (a++b) L=zeE sizes b (zeE sizes a L)
 | [],_,_=>rfl
 | _::a,b,L=>by simp only [y7,zeE];exact zhp sizes a b _
theorem stepT_append (s A B):stepT s (A++B)=stepT s A++stepT s B:=by simp [stepT]
theorem stepT_len {s L}:(stepT s L).length=L.length*s:=by
 induction L with
 | nil=>simp [stepT]
 | cons l L ih=>
  have:stepT s (l::L)=stepT s [l]++stepT s L:=stepT_append s [l] L;rw [this,yG,ih];simp [stepT,uj,Nat.add_comm]
theorem stepT_mem {s L k} (h:∀ l∈L,l.length=k):∀ l∈stepT s L,l.length=k+1:=λl hl=>by
 simp only [stepT,uw,yU] at hl;obtain ⟨x,hx,e,-,rfl⟩:=hl;simp [h x hx]
theorem stepT_snoc {s:Nat} {L:List (List Int)} {i:Nat} (hi:i<L.length):stepT s (L.take (i+1))=stepT s (L.take i)++(List.range s).map λe:Nat=>L[i]++[(e:Int)]:=by
 rw [yr hi,stepT_append];congr 1;simp [stepT]
def zdS (i:Nat) (L:List (List Int)):List Place:=L.map λl=>⟨(i:Int),l⟩
def zcs (sizes:List Int) (s:Bool):List Table→Nat→List Place
 | [],_=>[]
 | t::l,i=>(if decide (t.kind≤1)=s then zdS i (zdD sizes t.columns) else [])++zcs sizes s l (i+1)
theorem zhb (sizes s):∀ (a b:List Table) (i:Nat),zcs sizes s (a++b) i=zcs sizes s a i++zcs sizes s b (i+a.length)
 | [],b,i=>by simp [zcs]
 | t::a,b,i=>by
  simp only [y7,zcs,zhb sizes s a b,yJ,yB];rw [show i+1+a.length=i+(a.length+1) by omega]
theorem placesP_snoc {sizes:List Int} {s:Bool} {l:List Table} {i:Nat} (hi:i<l.length):zcs sizes s (l.take (i+1)) 0=zcs sizes s (l.take i) 0++(if decide (l[i].kind≤1)=s then zdS i (zdD sizes l[i].columns) else []):=by
 rw [yr hi,zhb];congr 1;simp only [zcs,ur,yR,uq];rw [show min i l.length=i by omega]
theorem open_l4 {n:Nat} {x40:Int} {rec:((List (List Int))×Int)→Option ((Option Layout)×Bool)} {l:List Int} {s:Nat} {b:List (List Int)} {k:Nat} (hk:add64 x40 1=(k:Int)) (hs:s≤6) (hl:l.length≤100) (hb:b.length≤100000) (hn:1000000≤n) :
  loopF (zi.l4 n x40 rec l (s:Int)) n (b,0)=rec (b++(List.range s).map λe:Nat=>l++[(e:Int)],(k:Int)):=by
 have:=zD (body:=zi.l4 n x40 rec l (s:Int)) (len:=s) (st:=λi=>(b++(List.range i).map λe:Nat=>l++[(e:Int)],(i:Int))) (g:=λ_=>rec (b++(List.range s).map λe:Nat=>l++[(e:Int)],(k:Int))) (λrec' i hi hr=>?_) (λrec'=>?_) n 0 (yp _) (by omega)
 ·simpa using this
 ·rw [uJ,ul,← yB] at hr;simp only [zi.l4,zgl hi,if_true,zc (i:=i) (by omega)];rw [zW (by simp;omega),ya,zW (by simp;omega),ya,zW (by simp;omega),ya];exact hr
 ·simp only [zi.l4,zei (yn s),ye,if_false,hk]
theorem open_l3 {n:Nat} {m} {L:List (List Int)} {x34 x36:Int} {rec:((List (List Int))×Int)→Option ((Option Layout)×Bool)} {s k:Nat} (hk:add64 x34 1=(k:Int)) (hx:idx m.sorts x36=some (s:Int)) (hs:s≤6) (hl:∀ l∈L,l.length≤100) (hL:L.length≤1000) (hn:1000000≤n) :
  loopF (zi.l3 n m L x34 rec x36) n ([],0)=rec (stepT s L,(k:Int)):=by
 have:=zD (body:=zi.l3 n m L x34 rec x36) (len:=L.length) (st:=λi=>(stepT s (L.take i),(i:Int))) (g:=λ_=>rec (stepT s L,(k:Int))) (λrec' i hi hr=>?_) (λrec'=>?_) n 0 (yp _) (by omega)
 ·simpa [stepT] using this
 ·rw [stepT_snoc hi] at hr;simp only [zi.l3,zo hi,if_true,za hi,ya,hx];have hlen:(stepT s (L.take i)).length≤100000:=by
   rw [stepT_len,yR];have:min i L.length*s≤1000*6:=yN (by omega) hs;omega
  rw [open_l4 (k:=i+1) (zc (by omega)) hs (hl _ (yk hi)) hlen hn];exact hr
 ·simp only [zi.l3,zap,ye,if_false,hk,List.take_length]
theorem open_l5 {n:Nat} {i:Nat} {rec:((List Place)×(List Place)×Int)→Option ((Option Layout)×Bool)} {t:Table} {L:List (List Int)} {b1 b2:List Place} (hi:i<1000000) (hL:L.length≤1000) (h1:b1.length≤100000) (h2:b2.length≤100000) (hn:1000000≤n) :
  loopF (zi.l5 n (i:Int) rec t L) n (b1,b2,0)=rec (b1++(if decide (t.kind≤1)=true then zdS i L else []),b2++(if decide (t.kind≤1)=false then zdS i L else []),((i+1:Nat):Int)):=by
 cases hk:decide (t.kind≤1) with
 | true=>
  simp only [if_true,Bool.true_eq_false,if_false,ur];have:=zD (body:=zi.l5 n (i:Int) rec t L) (len:=L.length) (st:=λk=>(b1++zdS i (L.take k),b2,(k:Int))) (g:=λ_=>rec (b1++zdS i L,b2,((i+1:Nat):Int))) (λrec' k hk' hr=>?_) (λrec'=>?_) n 0 (yp _) (by omega)
  ·simpa [zdS] using this
  ·simp only [zdS] at hr ⊢;rw [← zd7 hk',← yB] at hr;simp only [zi.l5,jn,zo hk',if_true,za hk',ya,hk,zc (i:=k) (by omega)];rw [zW (by simp;omega),ya];exact hr
  ·simp only [zi.l5,zap,ye,if_false,List.take_length,zc (i:=i) (by omega)]
 | false=>
  simp only [ye,if_true,if_false,ur];have:=zD (body:=zi.l5 n (i:Int) rec t L) (len:=L.length) (st:=λk=>(b1,b2++zdS i (L.take k),(k:Int))) (g:=λ_=>rec (b1,b2++zdS i L,((i+1:Nat):Int))) (λrec' k hk' hr=>?_) (λrec'=>?_) n 0 (yp _) (by omega)
  ·simpa [zdS] using this
  ·simp only [zdS] at hr ⊢;rw [← zd7 hk',← yB] at hr;simp only [zi.l5,jn,zo hk',if_true,za hk',ya,hk,ye,if_false,zc (i:=k) (by omega)];rw [zW (by simp;omega),ya];exact hr
  ·simp only [zi.l5,zap,ye,if_false,List.take_length,zc (i:=i) (by omega)]
theorem zip {sizes} (hs:sizes.all zbn=true):∀ (cols:List Int) (L:List (List Int)) (A k:Nat),cols.all (colOK sizes)=true→L.length≤A→(∀ l∈L,l.length=k)→(zeE sizes cols L).length≤A*6 ^ cols.length∧∀ l∈zeE sizes cols L,l.length=k+cols.length
 | [],L,A,k,_,h1,h2=>by simpa [zeE] using ⟨h1,h2⟩
 | c::cols,L,A,k,hc,h1,h2=>by
  simp only [um,yc] at hc;have hz:=zik hs hc.1;have hlen:(stepT (zcz sizes c).toNat L).length≤A*6:=by
   rw [stepT_len];exact yN h1 (by omega)
  obtain ⟨p1,p2⟩:=zip hs cols (stepT (zcz sizes c).toNat L) (A*6) (k+1) hc.2 hlen (stepT_mem h2);simp only [zeE,yJ];refine ⟨?_,λl hl=>?_⟩
  ·rw [uG,Nat.mul_comm (6 ^ cols.length) 6,← Nat.mul_assoc];exact p1
  ·rw [p2 l hl];omega
theorem zfJ {sizes cols} (hs:sizes.all zbn=true) (hc:cols.all (colOK sizes)=true) (h3:cols.length≤3):(zdD sizes cols).length≤216∧∀ l∈zdD sizes cols,l.length=cols.length:=by
 obtain ⟨p1,p2⟩:=zip hs cols [[]] 1 0 hc (by simp) (by simp);refine ⟨ue p1 ?_,λl hl=>by simpa using p2 l hl⟩;have:6 ^ cols.length≤6 ^ 3:=uy (by decide) h3;omega
theorem open_l2 {n:Nat} {m} {b1 b2:List Place} {i:Nat} {rec:((List Place)×(List Place)×Int)→Option ((Option Layout)×Bool)} {t:Table} (hs:m.sorts.all zbn=true) (hc:t.columns.all (colOK m.sorts)=true) (h3:t.columns.length≤3) (hi:i<1000000) (h1:b1.length≤100000) (h2:b2.length≤100000) (hn:1000000≤n) :
  loopF (zi.l2 n m b1 b2 (i:Int) rec t) n ([[]],0)=rec (b1++(if decide (t.kind≤1)=true then zdS i (zdD m.sorts t.columns) else []),b2++(if decide (t.kind≤1)=false then zdS i (zdD m.sorts t.columns) else []),((i+1:Nat):Int)):=by
 have hpre:∀ k,(t.columns.take k).all (colOK m.sorts)=true:=λk=>yo.2 λc hm=>yo.1 hc c (List.mem_of_mem_take hm)
 have:=zD (body:=zi.l2 n m b1 b2 (i:Int) rec t) (len:=t.columns.length) (st:=λk=>(zdD m.sorts (t.columns.take k),(k:Int))) (g:=λ_=>rec (b1++(if decide (t.kind≤1)=true then zdS i (zdD m.sorts t.columns) else []),b2++(if decide (t.kind≤1)=false then zdS i (zdD m.sorts t.columns) else []),((i+1:Nat):Int))) (λrec' k hk hr=>?_) (λrec'=>?_) n 0 (yp _) (by omega)
 ·simpa [zdD,zeE] using this
 ·have hcol:=yo.1 hc _ (yk hk);have hz:=zik hs hcol;obtain ⟨p1,p2⟩:=zfJ hs (hpre k) (by simp;omega);have hsz:idx m.sorts t.columns[k]=some (((zcz m.sorts t.columns[k]).toNat:Nat):Int):=by
   rw [zej hcol];unfold zcz at hz ⊢;congr 1;omega
  simp only [zi.l2,zo hk,if_true,za hk,ya];rw [open_l3 (k:=k+1) (zc (by omega)) hsz (by omega) (λl hl=>by rw [p2 l hl];simp;omega) (by omega) hn,← hr];congr 2;unfold zdD;rw [yr hk,zhp];rfl
 ·obtain ⟨p1,-⟩:=zfJ hs hc h3;simp only [zi.l2,zap,ye,if_false,List.take_length];exact open_l5 hi (by omega) h1 h2 hn
theorem zhy {sizes s}:∀ {l:List Table} {i:Nat},(∀ t∈l,(zdD sizes t.columns).length≤216)→(zcs sizes s l i).length≤l.length*216
 | [],_,_=>by simp [zcs]
 | t::l,i,h=>by
  have ih:=zhy (s:=s) (l:=l) (i:=i+1) λx hx=>h x (by simp [hx])
  have ht:=h t (by simp);simp only [zcs,yG,yJ];split
  ·simp only [zdS,yS];omega
  ·simp only [uz];omega
def layoutM (m:Model):Layout:=⟨m,zcs m.sorts true m.tables 0,zcs m.sorts false m.tables 0⟩
theorem symmetry_open_eq {n:Nat} {m} (hF:Fuel n) (hS:SmallM m):zi n m=some (if zdp m=true then (some (layoutM m),true) else (none,false)):=by
 have hn:=hF.big;have htl:=hS.tables;unfold zi;rw [zha hF hS,ya];cases hv:zdp m with
 | false=>simp
 | true=>
  have hV:=zcJ.1 hv;obtain ⟨l1,l2,l3,l4⟩:=zag hV.lay;have hb:∀ t∈m.tables,(zdD m.sorts t.columns).length≤216:=λt ht=>(zfJ l3 (l4 t ht).2.2.2.1 (l4 t ht).2.2.1).1
  rw [if_neg (by simp),if_pos rfl];have:=zD (body:=zi.l1 n m) (len:=m.tables.length) (st:=λi=>(zcs m.sorts true (m.tables.take i) 0,zcs m.sorts false (m.tables.take i) 0,(i:Int))) (g:=λ_=>some (some (layoutM m),true)) (λrec i hi hr=>?_) (λrec=>?_) n 0 (yp _) (by omega)
  ·simpa [zcs] using this
  ·have hmem:=yk hi;obtain ⟨-,-,c1,c2,-⟩:=l4 _ hmem;have hA:=zhy (s:=true) (l:=m.tables.take i) (i:=0) λt ht=>hb t (List.mem_of_mem_take ht)
   have hB:=zhy (s:=false) (l:=m.tables.take i) (i:=0) λt ht=>hb t (List.mem_of_mem_take ht)
   simp only [yR] at hA hB;rw [placesP_snoc hi,placesP_snoc hi] at hr;simp only [zi.l1,zo hi,if_true,za hi,ya];rw [open_l2 l3 c2 c1 (by omega) (by omega) (by omega) (by omega)];exact hr
  ·simp [zi.l1,layoutM]
def zes (m:Model) (q:Question):Bool:=
 (((decide (0≤q.e)&&decide (q.e<(m.actions.length:Int)))&&(decide (0≤q.f)&&decide (q.f<(m.actions.length:Int))))&&decide (0≤q.target.index)) &&
 (if q.target.hold=true then decide (q.target.index<(((idx m.actions q.e).getD default).effect.hold.length:Int)) else decide (q.e≤q.f)&&decide (q.target.index<(m.constraints.length:Int)))
theorem quest_body {m q}:(if (((((decide (q.e<0))||(decide (q.f<0)))||(decide ((m.actions.length:Int)≤q.e)))||(decide ((m.actions.length:Int)≤q.f)))||(decide (q.target.index<0)))=true then some false
 else if q.target.hold=true then (idx m.actions q.e).bind λx=>some (decide (q.target.index<(x.effect.hold.length:Int))) else some ((decide (q.e≤q.f))&&(decide (q.target.index<(m.constraints.length:Int)))))=some (zes m q):=by
 unfold zes;by_cases h:((0≤q.e∧q.e<(m.actions.length:Int))∧(0≤q.f∧q.f<(m.actions.length:Int)))∧0≤q.target.index
 ·rw [if_neg (by simp;omega)];obtain ⟨a,ha⟩:=za9 h.1.1.1 h.1.1.2;rw [ha];simp only [h,decide_true,uQ,yE,ya,yf];split <;> rfl
 ·rw [if_pos (by simp;omega)];have:(((decide (0≤q.e)&&decide (q.e<(m.actions.length:Int)))&&(decide (0≤q.f)&&decide (q.f<(m.actions.length:Int))))&&decide (0≤q.target.index))=false:=by
   rw [← yH];simp only [yc,yd];exact h
  rw [this,uc]
theorem symmetry_Valid_eq {n m q} (hF:Fuel n) (hS:SmallM m):zdN n m q=some (zdp m&&zes m q):=by
 unfold zdN;rw [symmetry_open_eq hF hS,ya];cases zdp m with
 | false=>simp [grd]
 | true=>
  have:zbk n (layoutM m) q=some (zes m q):=quest_body;simp [grd,this]
theorem zhk {n m q} (hn:4294967296≤n) (hS:SmallM m):zez n m q=some (zdp m&&zes m q):=by
 unfold zez;rw [zdJ hn hS,ya];cases zdp m with
 | false=>simp
 | true=>
  simp only [uf,ut,yE];exact quest_body
theorem awake_spec:zhu 18446744073709551616=some true:=by decide +kernel
theorem keywords_spec:(zbs 18446744073709551616).map (λm=>m.es.map (λe=>e.2))=some (kwL.map λk=>(k,true)):=by decide +kernel
theorem fuel_N:Fuel 18446744073709551616:=by
 refine ⟨by decide,?_⟩;have h:=keywords_spec;cases hk:zbs 18446744073709551616 with
 | none=>rw [hk] at h;cases h
 | some m=>
  rw [hk] at h;simp only [yT,yh] at h;refine ⟨m,rfl,λe he=>?_,λk=>?_⟩
  ·have:e.2∈m.es.map (λe=>e.2):=List.mem_map_of_mem he;rw [h] at this;simp only [yU] at this;obtain ⟨x,-,hx⟩:=this;rw [← hx]
  ·have:m.es.map (λe=>e.2.1)=kwL:=by
    have e1:m.es.map (λe=>e.2.1)=(m.es.map (λe=>e.2)).map (·.1):=by rw [uL];rfl
    rw [e1,h,uL];exact List.map_id kwL
   rw [this]
theorem zfw {K}:∀ (l:List Change) (last:Int),zg8 K last l=true→(∀ d∈l,last<d.cell∧d.cell<(K:Int)∧d.add≠0∧-1000000000≤d.add∧d.add≤1000000000)∧(l.map (·.cell)).Nodup
 | [],_,_=>by simp
 | d::l,last,h=>by
  simp only [zg8,zaP,yc,yd,bne_iff_ne] at h;obtain ⟨⟨⟨⟨h1,h2⟩,h3⟩,h4,h5⟩,h6⟩:=h;obtain ⟨p1,p2⟩:=zfw l d.cell h6;refine ⟨λx hx=>?_,?_⟩
  ·simp only [yI] at hx;rcases hx with rfl | hx
   ·exact ⟨h1,h2,h3,h4,h5⟩
   ·obtain ⟨q1,q2⟩:=p1 x hx;exact ⟨by omega,q2⟩
  ·simp only [yM,List.nodup_cons,yU,not_exists,not_and];exact ⟨λx hx e=>by have:=(p1 x hx).1;omega,p2⟩
theorem valid_act {m} (hV:ValidM m) {a} (ha:a∈m.actions):effP m (zQ m.sorts true m.tables).length a.effect=true∧(0≤a.operation∧a.operation<(m.operations.length:Int)):=by
 have h:=hV.acts;simp only [actsP,yc] at h;obtain ⟨i,hi,rfl⟩:=List.mem_iff_getElem.1 ha;have:=zg5.1 h.2 i hi;simp only [za hi,yf,actP,yc,yd] at this;exact ⟨this.2,this.1.1.1.1⟩
theorem valid_con {m} (hV:ValidM m) {c} (hc:c∈m.constraints):zd3 (zQ m.sorts true m.tables).length c=true∨acyP m c=true:=by
 have h:=hV.cons;simp only [consP,yc] at h;obtain ⟨i,hi,rfl⟩:=List.mem_iff_getElem.1 hc;have:=zg5.1 h.2 i hi;simp only [za hi,yf,conP,yc,yz] at this;exact this.1.2
theorem acy_size {m} (hV:ValidM m) {c} (h:acyP m c=true):c.kind=1∧1≤c.size∧c.size≤6:=by
 obtain ⟨l1,l2,l3,l4⟩:=zag hV.lay;simp only [acyP,zge,yc,uv,beq_iff_eq] at h;obtain ⟨h1,-,t,ht,hg⟩:=h;simp only [zhR,yc,beq_iff_eq] at hg;obtain ⟨⟨g1,g2⟩,⟨g3,g4⟩,g5⟩:=hg;obtain ⟨⟨x,hx⟩,-,z,hz⟩:=zgQ (l4 t ht).2.2.2.1 g2;refine ⟨h1,?_⟩;rw [hz] at g5;simp only [yf] at g5;have:=yo.1 l3 z (zav hz);simp only [zbn,yc,yd] at this;omega
theorem good_of_valid {n m} (hn:4294967296≤n) (hS:SmallM m) (hV:ValidM m):Good n m:=by
 refine ⟨λa ha=>?_,λc hc=>?_⟩
 ·obtain ⟨a1,a2,a3,a4,a5⟩:=hS.act a ha;have he:=(valid_act hV ha).1;simp only [effP,yc] at he;obtain ⟨p1,p2⟩:=zfw _ _ he.1;exact ⟨by omega,by omega,λk=>addP_addedP k _ p2 λd hd=>by have:=p1 d hd;omega,λr hr=>by have:=a5 r hr;omega⟩
 ·have hl:=hS.con c hc;rcases valid_con hV hc with h | h
  ·simp only [zd3,yc,beq_iff_eq] at h;refine ⟨.inl h.1.1.1,by omega,by omega,0,?_,by decide,by omega⟩;rw [h.1.2];rfl
  ·obtain ⟨k1,s1,s2⟩:=acy_size hV h;refine ⟨.inr k1,by omega,by omega,c.size.toNat*c.size.toNat,?_,?_,?_⟩
   ·have:c.size*c.size≤6*6:=Int.mul_le_mul s2 s2 (by omega) (by omega);have h0:0≤c.size*c.size:=Int.mul_nonneg (by omega) (by omega);unfold mul64;rw [zaj (by omega) (by omega),y0,Int.toNat_of_nonneg (by omega)]
   ·have:c.size.toNat*c.size.toNat≤6*6:=yN (by omega) (by omega);omega
   ·have:c.size.toNat*c.size.toNat≤6*6:=yN (by omega) (by omega);omega
theorem zhz {m q} (h:zes m q=true):(0≤q.e∧q.e<(m.actions.length:Int))∧(0≤q.f∧q.f<(m.actions.length:Int))∧0≤q.target.index∧(q.target.hold=true→∀ a,idx m.actions q.e=some a→q.target.index<(a.effect.hold.length:Int))∧(q.target.hold=false→q.e≤q.f∧q.target.index<(m.constraints.length:Int)):=by
 simp only [zes,yc,yd] at h;obtain ⟨⟨⟨h1,h2⟩,h3⟩,h4⟩:=h;refine ⟨h1,h2,h3,λhh a ha=>?_,λhh=>?_⟩
 ·rw [if_pos hh,ha] at h4;simpa using h4
 ·rw [if_neg (by simp [hh])] at h4;simpa using h4
def inBox:List Range→List Int→Bool
 | r::rs,x::xs=>(decide (r.lo≤x)&&decide (x≤r.hi))&&inBox rs xs
 | [],[]=>true
 | _,_=>false
def sumP (s:List Int):List Term→Int
 | []=>0
 | t::l=>t.factor*s.getD t.cell.toNat 0+sumP s l
def zeD (k:Nat) (t:Term):Prop:=0≤t.cell∧t.cell<(k:Int)∧-1000≤t.factor∧t.factor≤1000
theorem mul_bd {f x B:Int} (h1 : -1000≤f) (h2:f≤1000) (h3 : -B≤x) (h4:x≤B) : -(1000*B)≤f*x∧f*x≤1000*B:=by
 have hB:0≤B:=by omega
 have a1:f.natAbs≤1000:=by omega
 have a2:x.natAbs≤B.toNat:=by omega
 have a3:(f*x).natAbs≤1000*B.toNat:=by rw [Int.natAbs_mul];exact yN a1 a2
 omega
theorem zeM {s:List Int} {c:Int} (h0:0≤c) (h1:c<(s.length:Int)):idx s c=some (s.getD c.toNat 0):=by
 obtain ⟨k,rfl⟩:=yQ h0;have:k<s.length:=by omega
 rw [za this];simp [List.getD,this]
theorem getD_mem {s:List Int} {c:Int} (h0:0≤c) (h1:c<(s.length:Int)):s.getD c.toNat 0∈s:=zav (zeM h0 h1)
theorem band_low {x:Int} (h1 : -9223372036854775808≤x) (h2:x≤9223372036854775807):band .i64 x 4294967295=x % 4294967296:=by
 unfold band zfr;rw [BitVec.toNat_and,BitVec.toNat_ofInt,BitVec.toNat_ofInt];have e1:((4294967295:Int) % ((2 ^ IntKind.i64.bits:Nat):Int)).toNat=2 ^ 32 - 1:=by decide
 rw [e1,Nat.and_two_pow_sub_one_eq_mod];have e2:((2 ^ IntKind.i64.bits:Nat):Int)=18446744073709551616:=by decide
 rw [e2];have e3:(((x % 18446744073709551616).toNat % 2 ^ 32:Nat):Int)=x % 4294967296:=by omega
 rw [e3];exact zaj (by omega) (by omega)
def anyR (p:Nat→Bool) (i:Nat):Nat→Bool
 | 0=>false
 | k+1=>p i||anyR p (i+1) k
theorem anyR_mono {p q}:∀ {k i:Nat},(∀ j,i≤j→j<i+k→p j=true→q j=true)→anyR p i k=true→anyR q i k=true
 | 0,_,_,h=>by simp [anyR] at h
 | k+1,i,hpq,h=>by
  simp only [anyR,yz] at h ⊢;rcases h with h | h
  ·exact .inl (hpq i (yn _) (by omega) h)
  ·exact .inr (anyR_mono (λj h1 h2=>hpq j (by omega) (by omega)) h)
def neP (E:Nat→Nat→Bool) (size:Nat):Nat→List Int→Nat→Nat→Bool
 | 0,_,first,last=>E last first
 | d+1,path,first,last=>anyR (λx=>!(decide ((x:Int)∈path)||!E last x)&&neP E size d (path++[(x:Int)]) first x) (first+1) (size - (first+1))
theorem neP_mono {E F size} (h:∀ a b,a<size→b<size→E a b=true→F a b=true):∀ (d:Nat) (path:List Int) (first last:Nat),first<size→last<size→neP E size d path first last=true→neP F size d path first last=true
 | 0,_,first,last,h1,h2,he=>h _ _ h2 h1 he
 | d+1,path,first,last,h1,h2,he=>by
  rw [neP] at he ⊢;refine anyR_mono (λj hj hk hp=>?_) he;simp only [yc,yw,ud,Bool.not_eq_false'] at hp ⊢;exact ⟨⟨hp.1.1,h _ _ h2 (by omega) hp.1.2⟩,neP_mono h d _ first j h1 (by omega) hp.2⟩
def edgeP (s:List Int) (c:Constraint) (a b:Nat):Bool:=decide (1≤s.getD (c.first+(a:Int)*c.size+(b:Int)).toNat 0)
structure GraphIn (c:Constraint) (s:List Int) (size:Nat):Prop where
 sz:c.size=(size:Int)
 pos:1≤size
 six:size≤6
 first:0≤c.first
 fits:c.first+(size*size:Nat)≤(s.length:Int)
 len:s.length≤1000
theorem edge_eq {n c s size a b} (h:GraphIn c s size) (ha:a<size) (hb:b<size):zdy n c s a b=some (edgeP s c a b):=by
 have h6:=h.six;have hm:a*size+b<size*size:=by
  have:=yZ size (show a+1≤size by omega);rw [uj] at this;omega
 have hf:=h.fits;have hl:=h.len;have h0:=h.first
 have hc:(a:Int)*c.size=((a*size:Nat):Int):=by rw [h.sz,y0]
 unfold zdy edgeP;have e1:mul64 (a:Int) c.size=((a*size:Nat):Int):=by unfold mul64;rw [hc];exact zaj (by omega) (by omega)
 have e2:add64 c.first ((a*size:Nat):Int)=c.first+((a*size:Nat):Int):=by unfold add64;exact zaj (by omega) (by omega)
 have e3:add64 (c.first+((a*size:Nat):Int)) (b:Int)=c.first+((a*size:Nat):Int)+(b:Int):=by unfold add64;exact zaj (by omega) (by omega)
 rw [e1,e2,e3,hc,zeM (by omega) (by omega)];rfl
theorem ref12_has_eq {n l x} (hl:l.length<1000000) (hn:1000000≤n):zdf n l x=some (decide (x∈l)):=by
 have:=zD (body:=zdf.l1 n l x) (len:=l.length) (st:=λi=>(i:Int)) (g:=λi=>some (decide (x∈l.drop i))) (λrec i hi hr=>?_) (λrec=>?_) n 0 (yp _) (by omega)
 ·simpa [zdf] using this
 ·simp only [zdf.l1,zo hi,if_true,za hi,ya,zc (i:=i) (by omega),hr];rw [zn hi];by_cases h:l[i]=x
  ·rw [if_pos (by simpa using h)];simp only [yI,h,true_or,decide_true]
  ·have h':¬ x=l[i]:=λe=>h e.symm
   rw [if_neg (by simpa using h)];simp only [yI,h',false_or]
 ·simp [zdf.l1]
theorem paths_eq {c s size} (hG:GraphIn c s size):∀ (d m:Nat) (path:List Int) (first last:Nat),d≤6→1000000+d<m→1≤path.length→path.length+d≤10→idx path 0=some (first:Int)→idx path ((path.length - 1:Nat):Int)=some (last:Int)→first<size→last<size →
  ∃ L,zaC m c s path ((path.length+d:Nat):Int)=some L∧(L≠[]↔neP (edgeP s c) size d path first last=true)∧L.length≤6 ^ d∧∀ p∈L,p≠[]
 | d,0,_,_,_,_,h,_,_,_,_,_,_=>by omega
 | 0,m+1,path,first,last,_,hm,hp,hp2,h0,hl,hf,hla=>by
  simp only [zaC,zaC.body];rw [zfI (by omega) (by omega),hl,h0];simp only [ya,uu,beq_self_eq_true,if_true,edge_eq hG hla hf,neP];cases edgeP s c last first with
  | true=>exact ⟨[path],rfl,by simp,by simp,λp hp'=>by simp only [yO] at hp';subst hp';intro e;rw [e] at hp;simp at hp⟩
  | false=>exact ⟨[],rfl,by simp,by simp,λp hp'=>by simp at hp'⟩
 | d+1,m+1,path,first,last,hd6,hm,hp,hp2,h0,hl,hf,hla=>by
  have h6:=hG.six;simp only [zaC,zaC.body];rw [zfI (by omega) (by omega),hl,h0];simp only [ya];rw [if_neg (by simp;omega),zc (by omega),neP];have hpow:1≤6 ^ d:=Nat.one_le_pow _ _ (by decide);have hpow2:6 ^ d≤46656:=ue (uy (by decide) (show d≤6 by omega)) (by decide);have main:=zdb (body:=zaC.l1 m (zaC m) c s path ((path.length+(d+1):Nat):Int) (last:Int)) (λst=>size - st.2.toNat) (λst=>∃ i:Nat,st.2=(i:Int)∧i≤size∧st.1.length≤i*6 ^ d)
   (λst o=>∃ L,o=some (st.1++L)∧(L≠[]↔anyR (λx=>!(decide ((x:Int)∈path)||!edgeP s c last x)&&neP (edgeP s c) size d (path++[(x:Int)]) first x) st.2.toNat (size - st.2.toNat)=true)∧L.length≤(size - st.2.toNat)*6 ^ d∧∀ p∈L,p≠[]) (λrec st hI hr=>by
    obtain ⟨b,x⟩:=st;obtain ⟨i,rfl,hi,hb⟩:=hI;simp only [] at hb hr;simp only [zaC.l1,jn,yq];by_cases hlt:i<size
    ·have hsz:decide ((i:Int)<c.size)=true:=by rw [hG.sz];exact zgl hlt
     have hb2:b.length≤300000:=by
      have:i*6 ^ d≤6*46656:=yN (by omega) hpow2;omega
     simp only [hsz,if_true,ref12_has_eq (show path.length<1000000 by omega) (show 1000000≤m by omega),edge_eq hG hla hlt,ya,yj,yy,grd,yf,zc (i:=i) (by omega)];rw [show size - i=(size - (i+1))+1 by omega,anyR];have hnx:∀ b':List (List Int),b'.length≤(i+1)*6 ^ d→∃ L,rec (b',((i+1:Nat):Int))=some (b'++L)∧(L≠[]↔anyR (λx=>!(decide ((x:Int)∈path)||!edgeP s c last x)&&neP (edgeP s c) size d (path++[(x:Int)]) first x) (i+1) (size - (i+1))=true)∧L.length≤(size - (i+1))*6 ^ d∧∀ p∈L,p≠[]:=λb' hb'=>by
      have:=hr (b',((i+1:Nat):Int)) ⟨i+1,rfl,by omega,hb'⟩ (by simp only [yq];omega);simpa only [yq] using this
     by_cases hsk:(decide ((i:Int)∈path)||!edgeP s c last i)=true
     ·rw [if_pos hsk,hsk];obtain ⟨L,l1,l2,l3,l4⟩:=hnx b (by rw [uj];omega);refine ⟨L,l1,by simpa using l2,by rw [uj];omega,l4⟩
     ·rw [if_neg hsk];simp only [yH] at hsk;rw [hsk,zW (by simp;omega),ya,zW (by simp;omega),ya];simp only [yV];obtain ⟨L',p1,p2,p3,p4⟩:=paths_eq hG d m (path++[(i:Int)]) first i (by omega) (by omega) (by simp) (by simp;omega) (by
       obtain ⟨y,hy⟩:∃ y,y=path:=⟨_,rfl⟩
       cases path with
       | nil=>simp at hp
       | cons z zs=>simpa [idx] using h0) (by
       have:(path++[(i:Int)]).length - 1=path.length:=by simp
       rw [this,za (by simp)];simp) hf hlt
      have e:((path++[(i:Int)]).length+d:Nat)=path.length+(d+1):=by simp;omega
      rw [e] at p1;rw [p1,ya,zW (by omega),ya];obtain ⟨L,l1,l2,l3,l4⟩:=hnx (b++L') (by rw [yG,uj];omega);refine ⟨L'++L,by rw [l1,yB],?_,by rw [yG,uj];omega,λp hp'=>?_⟩
      ·simp only [ux,yE,yz,← p2,← l2,ne_eq,List.append_eq_nil_iff];constructor
       ·intro h;by_cases hx:L'=[]
        ·exact .inr λhy=>h ⟨hx,hy⟩
        ·exact .inl hx
       ·rintro (h | h) ⟨h1,h2⟩
        ·exact h h1
        ·exact h h2
      ·rcases yK.1 hp' with h | h
       ·exact p4 p h
       ·exact l4 p h
    ·have hie:i=size:=by omega
     have hsz:decide ((i:Int)<c.size)=false:=by rw [hG.sz];exact zei (by omega)
     simp only [hsz,ye,if_false];exact ⟨[],by simp,by simp [hie,anyR],by simp,λp hp'=>by simp at hp'⟩) m ([],((first+1:Nat):Int)) ⟨first+1,rfl,by omega,by simp⟩ (by simp;omega)
  obtain ⟨L,l1,l2,l3,l4⟩:=main;simp only [yq,yV] at l1 l2 l3;refine ⟨L,l1,l2,?_,l4⟩;rw [uG,Nat.mul_comm];exact ue l3 (yZ _ (by omega))
def acycE (E:Nat→Nat→Bool) (size:Nat):Bool:=allR (λlen=>allR (λa=>!neP E size (len - 1) [(a:Int)] a a) 0 size) 1 size
theorem acycE_mono {E F size} (h:∀ a b,a<size→b<size→E a b=true→F a b=true) (hF:acycE F size=true):acycE E size=true:=by
 unfold acycE at hF ⊢;rw [allR_iff] at hF ⊢;intro len h1 h2;have:=hF len h1 h2;rw [zg5] at this ⊢;intro a ha;have hn:=this a ha;cases hx:neP E size (len - 1) [(a:Int)] a a with
 | false=>rfl
 | true=>rw [neP_mono h _ _ _ _ ha ha hx] at hn;exact hn
theorem Cycle_eq {n c s size} (hk:c.kind=1) (hG:GraphIn c s size) (hn:4294967296≤n):∃ l,za2 n c s=some l∧((l.length:Int)==0)=acycE (edgeP s c) size:=by
 have h6:=hG.six;have hpos:=hG.pos;have hfits:=hG.fits;have hlen:=hG.len;have h0:=hG.first
 have hsq:((size*size:Nat):Int)=(size:Int)*(size:Int):=y0 _ _;have hin:zau n c (s.length:Int)=some true:=by
  unfold zau;have e1:mul64 c.size c.size=((size*size:Nat):Int):=by
   unfold mul64;have:size*size≤6*6:=yN h6 h6;rw [hG.sz,← hsq];exact zaj (by omega) (by omega)
  have e2:sub64 (s.length:Int) ((size*size:Nat):Int)=(s.length:Int) - ((size*size:Nat):Int):=by
   have:size*size≤6*6:=yN h6 h6;unfold sub64;exact zaj (by omega) (by omega)
  rw [if_pos (by simp [hk]),e1,e2,hG.sz];simp only [yh,yc,yd];omega
 unfold za2;rw [hin];simp only [hk,uP,yj,yy,grd,if_true,yf,uf,Bool.or_self,ye,if_false];have inner:∀ (len:Nat),1≤len→len≤6→∀ rec:Int→Option (List Int),(∃ l,loopF (za2.l2 n c s (len:Int) rec) n 0=some l∧l≠[]∧allR (λa=>!neP (edgeP s c) size (len - 1) [(a:Int)] a a) 0 size=false)∨(loopF (za2.l2 n c s (len:Int) rec) n 0=rec ((len+1:Nat):Int)∧allR (λa=>!neP (edgeP s c) size (len - 1) [(a:Int)] a a) 0 size=true):=λlen hl1 hl6 rec=>by
  have:=zdb (body:=za2.l2 n c s (len:Int) rec) (λst=>size - st.toNat) (λst=>∃ i:Nat,st=(i:Int)∧i≤size) (λst o=>(∃ l,o=some l∧l≠[]∧allR (λa=>!neP (edgeP s c) size (len - 1) [(a:Int)] a a) st.toNat (size - st.toNat)=false)∨(o=rec ((len+1:Nat):Int)∧allR (λa=>!neP (edgeP s c) size (len - 1) [(a:Int)] a a) st.toNat (size - st.toNat)=true)) (λrec' st hI hr=>by
   obtain ⟨i,rfl,hi⟩:=hI;simp only [za2.l2,yq];by_cases hlt:i<size
   ·have hsz:decide ((i:Int)<c.size)=true:=by rw [hG.sz];exact zgl hlt
    obtain ⟨L,p1,p2,p3,p4⟩:=paths_eq hG (len - 1) n [(i:Int)] i i (by omega) (by omega) (by simp) (by simp;omega) (by simp [idx]) (by simp [idx]) hlt hlt;have e:([(i:Int)].length+(len - 1):Nat)=len:=by simp;omega
    rw [e] at p1;simp only [hsz,if_true,p1,ya,zc (i:=i) (by omega)];rw [show size - i=(size - (i+1))+1 by omega,allR];by_cases hL:L=[]
    ·subst hL;rw [if_neg (by simp)];have hne:neP (edgeP s c) size (len - 1) [(i:Int)] i i=false:=by
      cases hx:neP (edgeP s c) size (len - 1) [(i:Int)] i i with
      | false=>rfl
      | true=>exact absurd rfl (p2.2 hx)
     rw [hne];have:=hr ((i+1:Nat):Int) ⟨i+1,rfl,by omega⟩ (by simp only [yq];omega);simpa using this
    ·have hpl:0<L.length:=List.length_pos_iff.2 hL;rw [if_pos (by simpa using hpl)];have hne:=p2.1 hL;rw [hne];have hx:idx L 0=some L[0]:=za (l:=L) (i:=0) hpl;rw [hx];exact .inl ⟨L[0],rfl,p4 _ (yk hpl),by simp⟩
   ·have hie:i=size:=by omega
    have hsz:decide ((i:Int)<c.size)=false:=by rw [hG.sz];exact zei (by omega)
    simp only [hsz,ye,if_false,zc (i:=len) (by omega)];exact .inr ⟨trivial,by simp [hie,allR]⟩) n 0 ⟨0,rfl,by omega⟩ (by simp;omega)
  simpa using this
 have:=zdb (body:=za2.l1 n c s) (λst=>size+1 - st.toNat) (λst=>∃ i:Nat,st=(i:Int)∧1≤i∧i≤size+1) (λst o=>∃ l,o=some l∧((l.length:Int)==0)=allR (λlen=>allR (λa=>!neP (edgeP s c) size (len - 1) [(a:Int)] a a) 0 size) st.toNat (size+1 - st.toNat)) (λrec st hI hr=>by
  obtain ⟨i,rfl,hi1,hi⟩:=hI;simp only [za2.l1,yq];by_cases hlt:i≤size
  ·have hsz:decide ((i:Int)≤c.size)=true:=by rw [hG.sz];simpa using hlt
   rw [hsz,if_pos rfl,show size+1 - i=(size+1 - (i+1))+1 by omega,allR];rcases inner i hi1 (by omega) rec with ⟨l,q1,q2,q3⟩ | ⟨q1,q2⟩
   ·rw [q1,q3];exact ⟨l,rfl,by simpa using q2⟩
   ·rw [q1,q2];have:=hr ((i+1:Nat):Int) ⟨i+1,rfl,by omega,by omega⟩ (by simp only [yq];omega);simpa using this
  ·have hie:i=size+1:=by omega
   have hsz:decide ((i:Int)≤c.size)=false:=by rw [hG.sz];simp;omega
   rw [hsz,if_neg (by simp)];exact ⟨[],rfl,by simp [hie,allR]⟩) n 1 ⟨1,rfl,by omega,by omega⟩ (by simp;omega)
 simpa [acycE] using this
inductive ConIn (c:Constraint) (k:Nat):Prop
 | row:c.kind=0→(∀ t∈c.row.terms,zeD k t)→c.row.terms.length≤1000→(-4000000000≤c.row.bound∧c.row.bound≤4000000000)→ConIn c k
 | graph (size:Nat):c.kind=1→c.size=(size:Int)→1≤size→size≤6→0≤c.first→c.first+(size*size:Nat)≤(k:Int)→ConIn c k
def zae (c:Constraint) (s:List Int):Bool:=if c.kind=1 then acycE (edgeP s c) c.size.toNat else decide (sumP s c.row.terms≤c.row.bound)

def boxM (m:Model):List Range:=zQ m.sorts true m.tables
theorem lay_fit {sizes} (hs:sizes.all zbn=true):∀ {l:List Table} {seen:List (List UInt8)} {a b:Int},layP sizes seen a b l=true→0≤a→a+216*(l.length:Int)≤1000000→∀ t∈l,zaE t.kind=true→a≤t.first∧t.first+zY sizes t.columns 1≤a+((zQ sizes true l).length:Int)
 | [],_,_,_,_,_,_,t,ht,_=>by simp at ht
 | x::l,seen,a,b,h,ha,hb,t,ht,hst=>by
  have htab:=zgS h x (by simp);simp only [tabP,yc,yd] at htab;have hw:=zeW hs htab.1.2.2 htab.1.2.1;simp only [layP,yc] at h;have h2:=h.2;simp only [yJ] at hb;have hcast:((l.length+1:Nat):Int)=(l.length:Int)+1:=by omega
  rw [hcast] at hb;by_cases hx:zaE x.kind=true
  ·rw [if_pos hx] at h2;simp only [yc,beq_iff_eq] at h2;have hadd:add64 a (zY sizes x.columns 1)=a+zY sizes x.columns 1:=by unfold add64;exact zaj (by omega) (by omega)
   rw [hadd] at h2;have hlen:((zQ sizes true (x::l)).length:Int)=zY sizes x.columns 1+((zQ sizes true l).length:Int):=by
    rw [zQ,hx,if_pos (by rfl),yG,uk];omega
   rw [hlen];rcases yI.1 ht with rfl | ht
   ·omega
   ·have:=lay_fit hs h2.2 (by omega) (by omega) t ht hst;omega
  ·rw [if_neg hx] at h2;simp only [yc,beq_iff_eq] at h2;have hx':zaE x.kind=false:=by simpa using hx
   have hlen:(zQ sizes true (x::l))=zQ sizes true l:=by
    rw [zQ,hx',if_neg (by decide)]
   rw [hlen];rcases yI.1 ht with rfl | ht
   ·rw [hst] at hx';cases hx'
   ·exact lay_fit hs h2.2 ha (by omega) t ht hst
theorem zfl {K}:∀ {l:List Term} {last:Int},rowP K last l=true→-1≤last→∀ t∈l,zeD K t
 | [],_,_,_,t,ht=>by simp at ht
 | x::l,last,h,hl,t,ht=>by
  simp only [rowP,zaP,yc,yd] at h;rcases yI.1 ht with rfl | ht
  ·exact ⟨by omega,h.1.1.1.2,by omega,by omega⟩
  ·exact zfl h.2 (by omega) t ht
theorem row_in {K r} (h:rowOK K r=true) (hl:r.terms.length≤1000):ConIn ⟨0,0,r,0,0⟩ K:=by
 simp only [rowOK,zaP,yc,yd] at h;exact .row rfl (zfl h.1 (by decide)) hl (by simp only [];omega)
theorem con_in {m} (hS:SmallM m) (hV:ValidM m) {c} (hc:c∈m.constraints):ConIn c (boxM m).length:=by
 have hl:=hS.con c hc;rcases valid_con hV hc with h | h
 ·simp only [zd3,yc,beq_iff_eq] at h;have h2:=h.2;simp only [rowOK,zaP,yc,yd] at h2;exact .row h.1.1.1 (zfl h2.1 (by decide)) (by omega) (by omega)
 ·obtain ⟨l1,l2,l3,l4⟩:=zag hV.lay;obtain ⟨hk,s1,s2⟩:=acy_size hV h;have hL:=hV.lay;simp only [zaf,yc] at hL;simp only [acyP,zge,yc,uv,beq_iff_eq] at h;obtain ⟨-,-,t,ht,hg⟩:=h;simp only [zhR,yc,beq_iff_eq] at hg;obtain ⟨⟨g1,g2⟩,⟨g3,g4⟩,g5⟩:=hg;have hfit:=lay_fit l3 hL.2 (Int.le_refl _) (by omega) t ht (by simp [zaE,g1]);have hcols:=(l4 t ht).2.2.2.1;obtain ⟨⟨x,hx⟩,⟨y,hy⟩,-⟩:=zgQ hcols g2;obtain ⟨p,q,hpq⟩:∃ p q,t.columns=[p,q]:=by
   match hcs:t.columns with
   | []=>rw [hcs] at g2;simp at g2
   | [_]=>rw [hcs] at g2;simp at g2
   | [p,q]=>exact ⟨p,q,rfl⟩
   | _::_::_::_=>rw [hcs] at g2;simp at g2;omega
  have hp0:idx t.columns 0=some p:=by rw [hpq];rfl
  have hq0:idx t.columns 1=some q:=by rw [hpq];rfl
  rw [hp0,hq0] at g3;rw [hp0] at g5;simp only [yf] at g3 g5;subst g3;have hcp:=yo.1 hcols p (by rw [hpq];simp);rw [zej hcp] at g5;simp only [yf] at g5;have hw:zY m.sorts t.columns 1=c.size*c.size:=by
   rw [hpq];simp only [zY,g5];have:c.size*c.size≤6*6:=Int.mul_le_mul s2 s2 (by omega) (by omega);have h0:0≤c.size*c.size:=Int.mul_nonneg (by omega) (by omega);unfold mul64;rw [Int.one_mul,zaj (x:=c.size) (by omega) (by omega),zaj (by omega) (by omega)]
  rw [hw] at hfit;have hsz:c.size=((c.size.toNat:Nat):Int):=by omega
  refine .graph c.size.toNat hk hsz (by omega) (by omega) (by omega) ?_;have e:((c.size.toNat*c.size.toNat:Nat):Int)=c.size*c.size:=by rw [y0,← hsz]
  rw [e];unfold boxM;omega
def plusP (s:List Int) (d:List Change):List Int:=(List.range s.length).map λi=>s.getD i 0+zcf d (i:Int)
theorem zaN (s d):(plusP s d).length=s.length:=by simp [plusP]
theorem plus_get {s d c} (h0:0≤c) (h1:c<(s.length:Int)):(plusP s d).getD c.toNat 0=s.getD c.toNat 0+zcf d c:=by
 obtain ⟨k,rfl⟩:=yQ h0;have hk:k<s.length:=by omega
 simp [plusP,List.getD,hk]
def smallD (d:List Change):Prop:=∀ x∈d,-1000000000≤x.add∧x.add≤1000000000
theorem added_small {d} (h:smallD d) (c) : -1000000000≤zcf d c∧zcf d c≤1000000000:=by
 induction d with
 | nil=>simp [zcf]
 | cons x l ih=>
  simp only [zcf];split
  ·exact h x (by simp)
  ·exact ih λy hy=>h y (by simp [hy])
theorem ziL {s d B} (hs:∀ x∈s,-B≤x∧x≤B) (hd:smallD d):∀ x∈plusP s d,-(B+1000000000)≤x∧x≤B+1000000000:=by
 intro x hx;simp only [plusP,yU,yX] at hx;obtain ⟨i,hi,rfl⟩:=hx;have h1:=hs s[i] (yk hi);have h2:=added_small hd (i:Int);have:s.getD i 0=s[i]:=by simp [List.getD,hi]
 omega
theorem zhi {n m t} (hc:t.columns.all (colOK m.sorts)=true) (hl:t.columns.length≤1000) (hn:1000000≤n):zbp n m t=some (zY m.sorts t.columns 1):=by
 have:=zD (body:=zbp.l1 n m t) (len:=t.columns.length) (st:=λi=>(zY m.sorts (t.columns.take i) 1,(i:Int))) (g:=λ_=>some (zY m.sorts t.columns 1)) (λrec i hi hr=>?_) (λrec=>?_) n 0 (yp _) (by omega)
 ·simpa [zbp,zY] using this
 ·rw [yr hi,zdq] at hr;simp only [zY] at hr;simp only [zbp.l1,zo hi,if_true,za hi,ya,zej (yo.1 hc _ (yk hi)),zc (i:=i) (by omega),hr]
 ·simp [zbp.l1]
theorem zdL {n m} (hL:zaf m.sorts m.tables=true) (hn:1000000≤n):zaJ n m=some ((boxM m).length:Int):=by
 obtain ⟨l1,l2,l3,l4⟩:=zag hL;unfold zaJ;have:=zD (body:=zaJ.l1 n m) (len:=m.tables.length) (st:=λi=>(((zQ m.sorts true (m.tables.take i)).length:Int),(i:Int))) (g:=λ_=>some ((boxM m).length:Int)) (λrec i hi hr=>?_) (λrec=>?_) n 0 (yp _) (by omega)
 ·simpa [zQ] using this
 ·obtain ⟨-,-,c1,c2,c3,c4⟩:=l4 _ (yk hi);have hlen:=zct (sizes:=m.sorts) (s:=true) (l:=m.tables.take i) λx hx=>(l4 x (List.mem_of_mem_take hx)).2.2.2.2
  simp only [yR] at hlen;rw [zgu hi] at hr;have hcell:=zhi (n:=n) (m:=m) (t:=m.tables[i]) c2 (by omega) hn;simp only [zaJ.l1,jn,zo hi,if_true,za hi,ya,zdT,hcell,zc (i:=i) (by omega)];by_cases hst:(m.tables[i].kind==0||m.tables[i].kind==1)=true
  ·have hst':(zaE m.tables[i].kind==true)=true:=by simpa [zaE] using hst
   rw [if_pos hst'] at hr;rw [if_pos hst];have e:add64 ((zQ m.sorts true (m.tables.take i)).length:Int) (zY m.sorts m.tables[i].columns 1)=((zQ m.sorts true (m.tables.take i)++List.replicate (zY m.sorts m.tables[i].columns 1).toNat m.tables[i].range).length:Int):=by
    unfold add64;rw [zaj (by omega) (by omega),yG,uk];omega
   rw [e];exact hr
  ·have hst':¬ (zaE m.tables[i].kind==true)=true:=by simpa [zaE] using hst
   rw [if_neg hst'] at hr;rw [if_neg hst];exact hr
 ·simp [zaJ.l1,boxM]
def possP (m:Model) (e:Effect) (s:List Int):Bool:=m.constraints.all (λc=>zae c s&&zae c (plusP s e.delta))&&e.hold.all λr=>zae ⟨0,0,r,0,0⟩ s
structure StateOK (m:Model) (s:List Int):Prop where
 len:s.length=(boxM m).length
 small:∀ x∈s,-9999≤x∧x≤9999
theorem act_delta {m} (hV:ValidM m) {a} (ha:a∈m.actions):smallD a.effect.delta∧∀ r∈a.effect.hold,rowOK (boxM m).length r=true:=by
 have h:=(valid_act hV ha).1;simp only [effP,yc,yo] at h;obtain ⟨p1,-⟩:=zfw _ _ h.1;exact ⟨λx hx=>by have:=p1 x hx;omega,h.2.2.2⟩

theorem zfb {γ S R:Type} {body:(S→Option R)→S→Option R} {k n:Nat} {st:List γ→Nat→S} (g:Nat→List γ) (fin:List γ→Option R) (B:Nat) (b0:List γ) (hB:∀ i,i<k→(g i).length≤B)
  (step:∀ rec (b:List γ) i,i<k→b.length≤b0.length+i*B→body rec (st b i)=rec (st (b++g i) (i+1))) (done:∀ rec (b:List γ),b.length≤b0.length+k*B→body rec (st b k)=fin b) (hn:k<n) :
  loopF body n (st b0 0)=fin (b0++(List.range k).flatMap g):=by
 have:=zbE (σ:=List γ) (body:=body) (len:=k) (st:=st) (g:=λi b=>fin (b++(List.range' i (k - i)).flatMap g)) (λi b=>b.length≤b0.length+i*B) (λrec i b hi hI hr=>?_) (λrec b hI=>?_) n 0 b0 (yp _) (by omega) (by simp)
 ·simpa [List.range_eq_range'] using this
 ·rw [step rec b i hi hI,hr _ (by rw [yG];have:=hB i hi;rw [uj];omega)];have:List.range' i (k - i)=i::List.range' (i+1) (k - (i+1)):=by rw [show k - i=(k - (i+1))+1 by omega,List.range'_succ]
  rw [this,ug,yB]
 ·rw [done rec b hI];simp
theorem loopF_map {α γ S R:Type} {body:(S→Option R)→S→Option R} {l:List α} {n:Nat} {st:List γ→Nat→S} (h:α→γ) (fin:List γ→Option R) (b0:List γ)
  (step:∀ rec (b:List γ) i (hi:i<l.length),b.length=b0.length+i→body rec (st b i)=rec (st (b++[h l[i]]) (i+1))) (done:∀ rec (b:List γ),b.length=b0.length+l.length→body rec (st b l.length)=fin b) (hn:l.length<n) :
  loopF body n (st b0 0)=fin (b0++l.map h):=by
 have:=zD (body:=body) (len:=l.length) (st:=λi=>st (b0++(l.take i).map h) i) (g:=λ_=>fin (b0++l.map h)) (λrec i hi hr=>?_) (λrec=>?_) n 0 (yp _) (by omega)
 ·simpa using this
 ·have e:b0++(l.take (i+1)).map h=b0++(l.take i).map h++[h l[i]]:=by rw [yr hi,ul,yB];rfl
  rw [step rec _ i hi (by simp;omega),← e];exact hr
 ·rw [done rec _ (by simp)];simp
theorem Index_Lint_eq {n l x} (hl:l.length<1000000) (hn:1000000≤n):∃ k,zad n l x=some k∧(decide (0≤k)=decide (x∈l)):=by
 unfold zad;have:=zD (body:=zad.l1 n l x) (len:=l.length) (st:=λi=>(i:Int)) (g:=λi=>some (ixP (λy=>decide (x=y)) (l.drop i) i)) (λrec i hi hr=>?_) (λrec=>?_) n 0 (yp _) (by omega)
 ·refine ⟨_,this,?_⟩;rw [List.drop_zero,ziB];rw [Bool.eq_iff_iff];simp [uv]
 ·simp only [zad.l1,zo hi,if_true,za hi,ya];rw [zc (i:=i) (by omega),hr,zn hi];by_cases e:x=l[i]
  ·simp [e,ixP]
  ·simp [e,ixP]
 ·simp only [zad.l1,zap,ye,if_false];simp [ixP]
theorem Contains_Lint_eq {n l x} (hl:l.length<1000000) (hn:1000000≤n):zaV n l x=some (decide (x∈l)):=by
 obtain ⟨k,h1,h2⟩:=Index_Lint_eq (x:=x) hl hn;unfold zaV;rw [h1,ya,h2]
structure GraphOK (g:DGraph) (K:Nat):Prop where
 size:g.size=(K:Int)
 le:K≤6
 len:g.edges.length=K*K
def hasP (g:DGraph) (a b:Nat):Bool:=g.edges.getD (a*g.size.toNat+b) false
theorem pair_lt {K a b:Nat} (ha:a<K) (hb:b<K):a*K+b<K*K:=by
 have:(a+1)*K≤K*K:=yZ _ ha;rw [uj] at this;omega
theorem has_eq {n:Nat} {g:DGraph} {K a b:Nat} (hg:GraphOK g K) (ha:a<K) (hb:b<K):zaS n g (a:Int) (b:Int)=some (hasP g a b):=by
 have h1:=hg.le;have h2:=pair_lt ha hb;have h4:K*K≤36:=yN hg.le hg.le;have h3:add64 (mul64 (a:Int) g.size) (b:Int)=((a*K+b:Nat):Int):=by
  rw [hg.size];have e1:mul64 (a:Int) (K:Int)=((a*K:Nat):Int):=by
   unfold mul64;rw [zaj (by rw [← y0];omega) (by rw [← y0];omega)];simp
  rw [e1,zeg (by omega)]
 unfold zaS;rw [h3,za (by rw [hg.len];exact h2),ya];simp only [hasP,hg.size,yq,y9];rw [yA (by rw [hg.len];exact h2)];rfl
theorem nodup_le:∀ {K:Nat} {l:List Int},l.Nodup→(∀ x∈l,0≤x∧x<(K:Int))→l.length≤K
 | 0,l,_,h=>by
  cases l with
  | nil=>simp
  | cons x l=>have:=h x (by simp);omega
 | K+1,l,hn,h=>by
  by_cases hm:(K:Int)∈l
  ·have h1:=nodup_le (K:=K) (hn.erase (K:Int)) λx hx=>by
    have:=(hn.mem_erase_iff).1 hx;have:=h x this.2;omega
   rw [List.length_erase_of_mem hm] at h1;omega
  ·have:=nodup_le (K:=K) hn λx hx=>by
    have h2:=h x hx;have:x≠(K:Int):=λe=>hm (e▸hx)
    omega
   omega
def lexP:List Int→List Int→Int
 | [],[]=>0
 | [],_::_=>-1
 | _::_,[]=>1
 | a::l,b::m=>if a<b then -1 else if b<a then 1 else lexP l m
theorem lex_neg:∀ (a b:List Int),lexP b a = -lexP a b
 | [],[]=>rfl
 | [],_::_=>rfl
 | _::_,[]=>rfl
 | a::l,b::m=>by
  have:=lex_neg l m;simp only [lexP];split <;> split <;> omega
theorem lex_zero:∀ {a b:List Int},lexP a b=0→a=b
 | [],[],_=>rfl
 | [],_::_,h=>by simp [lexP] at h
 | _::_,[],h=>by simp [lexP] at h
 | a::l,b::m,h=>by
  simp only [lexP] at h;split at h
  ·omega
  ·split at h
   ·omega
   ·rw [lex_zero h,show a=b by omega]
theorem lex_trans:∀ {a b c:List Int},lexP a b<0→lexP b c<0→lexP a c<0
 | [],[],c,h,_=>by simp [lexP] at h
 | [],_::_,[],_,h=>by simp [lexP] at h
 | [],_::_,_::_,_,_=>by simp [lexP]
 | _::_,[],_,h,_=>by simp [lexP] at h
 | _::_,_::_,[],_,h=>by simp [lexP] at h
 | a::l,b::m,c::k,h1,h2=>by
  simp only [lexP] at *;have ih:=@lex_trans l m k;by_cases e1:a<b
  ·by_cases e2:b<c
   ·rw [if_pos (by omega)];omega
   ·by_cases e3:c<b
    ·rw [if_neg e2,if_pos e3] at h2;omega
    ·rw [if_pos (by omega)];omega
  ·by_cases e1':b<a
   ·rw [if_neg e1,if_pos e1'] at h1;omega
   ·rw [if_neg e1,if_neg e1'] at h1;by_cases e2:b<c
    ·rw [if_pos (by omega)];omega
    ·by_cases e3:c<b
     ·rw [if_neg e2,if_pos e3] at h2;omega
     ·rw [if_neg e2,if_neg e3] at h2;rw [if_neg (by omega),if_neg (by omega)];exact ih h1 h2
def cmpI (a b:Int):Int:=if a<b then -1 else if b<a then 1 else 0
def cmpC (a b:List Int):Int:=if cmpI a.length b.length≠0 then cmpI a.length b.length else lexP a b
theorem zgO (a b):cmpC b a = -cmpC a b:=by
 have:=lex_neg a b;unfold cmpC cmpI;split <;> split <;> (try split) <;> (try split) <;> simp_all <;> omega
theorem cmpC_zero {a b} (h:cmpC a b=0):a=b:=by
 unfold cmpC at h;split at h
 ·rename_i hne;exact absurd h hne
 ·exact lex_zero h
theorem cmpC_trans {a b c} (h1:cmpC a b<0) (h2:cmpC b c<0):cmpC a c<0:=by
 have k:∀ (x y:List Int),cmpC x y<0↔(x.length<y.length∨(x.length=y.length∧lexP x y<0)):=by
  intro x y;unfold cmpC cmpI;by_cases e:(x.length:Int)<y.length
  ·simp [e];omega
  ·by_cases e2:(y.length:Int)<x.length
   ·simp [e,e2];omega
   ·simp [e,e2];omega
 rw [k] at *;rcases h1 with h1 | ⟨h1,h1'⟩ <;> rcases h2 with h2 | ⟨h2,h2'⟩
 ·left;omega
 ·left;omega
 ·left;omega
 ·exact .inr ⟨by omega,lex_trans h1' h2'⟩
theorem cmpC_ntrans {a b c} (h1:¬ cmpC a b<0) (h2:¬ cmpC b c<0):¬ cmpC a c<0:=by
 intro h;have n1:=zgO a b;have n2:=zgO b c;by_cases e1:cmpC a b=0
 ·rw [cmpC_zero e1] at h;exact h2 h
 ·by_cases e2:cmpC b c=0
  ·rw [← cmpC_zero e2] at h;exact h1 h
  ·have:=cmpC_trans (a:=c) (b:=b) (c:=a) (by omega) (by omega);have n3:=zgO a c;omega
theorem zg3 {n} (a b):zbV n a b=some (cmpI a b):=by
 unfold zbV zc6 cmpI;simp;split <;> (try split) <;> rfl
theorem Compare_L_eq {n a b} (ha:a.length<1000000) (hn:1000000≤n):zg n a b=some (lexP a b):=by
 unfold zg;have:=zbE (σ:=Unit) (body:=zg.l1 n a b) (len:=a.length) (st:=λ_ i=>(i:Int)) (g:=λi _=>some (lexP (a.drop i) (b.drop i))) (λi _=>i≤b.length) (λrec i s hi hI hr=>?_) (λrec s hI=>?_) n 0 () (yp _) (by omega) (yp _)
 ·simpa using this
 ·simp only [zg.l1,zo hi,if_true,za hi,ya];by_cases hb:b.length≤i
  ·have e:b.drop i=[]:=List.drop_eq_nil_of_le hb;rw [if_pos (by simp;omega),e,zn hi];rfl
  ·rw [if_neg (by simp;omega),za (show i<b.length by omega),ya,zg3,ya,zc (by omega),hr () (by omega),zn hi,zn (show i<b.length by omega)];simp only [lexP,cmpI];split
   ·simp
   ·split
    ·simp
    ·simp
 ·simp only [zg.l1,zap,ye,if_false];rw [List.drop_length];by_cases hb:a.length<b.length
  ·rw [if_pos (by simp;omega),zn hb];rfl
  ·rw [if_neg (by simp;omega),List.drop_eq_nil_of_le (by omega)];rfl
theorem Or_eq {n} (x y) (hn:1000000≤n):zcC n [x,y]=some (if x≠0 then x else y):=by
 unfold zcC;rw [zhv (by omega)];have e0:idx [x,y] 0=some x:=rfl;have e1:idx [x,y] 1=some y:=rfl;simp only [zcC.l1,e0,ya,yJ,uz];rw [if_pos (by simp)];by_cases hx:x=0
 ·rw [if_neg (by simp [hx]),show add64 0 1=1 from rfl,zhv (by omega)];simp only [zcC.l1,e1,ya,yJ,uz];rw [if_pos (by simp)];by_cases hy:y=0
  ·rw [if_neg (by simp [hy]),show add64 1 1=2 from rfl,zhv (by omega)];simp [zcC.l1,hx,hy]
  ·rw [if_pos (by simp [hy])];simp [hx]
 ·rw [if_pos (by simp [hx])];simp [hx]
theorem compare_eq {n a b} (ha:a.length<1000000) (hn:1000000≤n):zcn n a b=some (cmpC a b):=by
 unfold zcn;rw [zg3,ya,Compare_L_eq ha hn,ya,Or_eq _ _ hn];rfl
theorem sortO_of {α:Type} {f:α→α→Option Int} {c:α→α→Int} {l:List α} (h1:∀ x∈l,∀ y∈l,f x y=some (c x y)) (irr:∀ x,¬ c x x<0) (tr:∀ x y z,c x y<0→c y z<0→c x z<0) (nt:∀ x y z,¬ c x y<0→¬ c y z<0→¬ c x z<0) (hl:l.length<4611686018427387904) :
  sortO f l=some (sortF (λx y=>(f x y).getD 0) l)∧swoB (λx y=>(f x y).getD 0) l=true:=by
 have hs:swoB (λx y=>(f x y).getD 0) l=true:=by
  unfold swoB;rw [yo];intro x hx;rw [yc,yo];refine ⟨by simpa [h1 x hx x hx] using irr x,λy hy=>?_⟩;rw [yo];intro z hz;simp only [h1 x hx y hy,h1 y hy z hz,h1 x hx z hz,yf,yc,yz,yw,uo,yd,yF];have a1:=tr x y z;have a2:=nt x y z;constructor
  ·by_cases p:c x y<0
   ·by_cases q:c y z<0
    ·exact .inr (a1 p q)
    ·exact .inl (.inr q)
   ·exact .inl (.inl p)
  ·by_cases p:c x y<0
   ·exact .inl (.inl p)
   ·by_cases q:c y z<0
    ·exact .inl (.inr q)
    ·exact .inr (a2 p q)
 refine ⟨?_,hs⟩;unfold sortO;rw [if_pos];simp only [yc,yo,yd];exact ⟨⟨λx hx y hy=>by rw [h1 x hx y hy];rfl,hs⟩,hl⟩
theorem add64_sm {x y} (h1 : -9223372036854775808≤x+y) (h2:x+y≤9223372036854775807):add64 x y=x+y:=zaj h1 h2
theorem mul64_sm {x y} (h1 : -9223372036854775808≤x*y) (h2:x*y≤9223372036854775807):mul64 x y=x*y:=zaj h1 h2
def shortR (R:List Row):Prop:=R.length<1000000∧∀ r∈R,r.terms.length<1000000
structure SysOK (R:List Row) (G:List Graph) (cs:List (List Row)):Prop where
 rows:shortR R
 graphs:G.length<1000000∧∀ g∈G,g.least.length<1000000
 cases:cs.length<1000000∧∀ rows∈cs,shortR rows
structure ConOK (K:Nat) (c:Constraint):Prop where
 kind:c.kind=0∨c.kind=1
 len:c.row.terms.length≤1000
 sz:c.kind=1→∃ s:Nat,c.size=(s:Int)∧1≤s∧s≤6∧0≤c.first∧c.first+((s*s:Nat):Int)≤(K:Int)
structure ActOK (a:Action):Prop where
 delta:a.effect.delta.length≤20
 hold:a.effect.hold.length≤10
 terms:∀ r∈a.effect.hold,r.terms.length≤1000

def badR (m:Model) (x:Int):Bool:=(decide (x<0)||decide ((m.constraints.length:Int)≤x))||(((idx m.constraints x).getD default).kind != 0)
inductive Weaker:List Row→List Row→Prop
 | nil:Weaker [] []
 | cons {r s:Row} {R S:List Row}:r.terms=s.terms→r.bound≤s.bound→Weaker R S→Weaker (r::R) (s::S)


section
variable (E:Nat→Nat→Bool) (K:Nat)
def fstN (l:List Int):Nat:=(l.headD 0).toNat
def lstN (l:List Int):Nat:=(l.getLastD 0).toNat
def zd2 (l:List Int):Bool:=E (lstN l) (fstN l)
def ext1 (l:List Int) (i:Nat):List (List Int):=if (E (lstN l) (fstN l+1+i)&&!decide (((fstN l+1+i:Nat):Int)∈l))=true then [l++[((fstN l+1+i:Nat):Int)]] else []
def ext (l:List Int):List (List Int):=(List.range (K - (fstN l+1))).flatMap (ext1 E l)
def dfs:Nat→List Int→List (List Int)
 | 0,_=>[]
 | d+1,l=>(if zd2 E l=true then [l] else [])++(ext E K l).flatMap (dfs d)
def lev:Nat→List (List Int)→List (List Int)
 | 0,ls=>ls
 | r+1,ls=>lev r (ls.flatMap (ext E K))
theorem lev_succ:∀ (r:Nat) (ls:List (List Int)),lev E K (r+1) ls=(lev E K r ls).flatMap (ext E K)
 | 0,_=>rfl
 | r+1,ls=>lev_succ r (ls.flatMap (ext E K))
theorem zfQ {α β:Type} (f g:α→List β):∀ l:List α,(l.flatMap λx=>f x++g x).Perm (l.flatMap f++l.flatMap g)
 | []=>by simp
 | x::l=>by
  simp only [ug,yB];refine .append_left _ ?_;exact ((zfQ f g l).append_left _).trans (List.perm_append_comm_assoc _ _ _)
theorem ziz {α:Type} (p):∀ l:List α,(l.flatMap λx=>if p x=true then [x] else [])=l.filter p
 | []=>rfl
 | x::l=>by rw [ug,ziz p l,List.filter_cons];split <;> rfl
theorem dfs_perm:∀ (d:Nat) (ls:List (List Int)),(ls.flatMap (dfs E K d)).Perm ((List.range d).flatMap λr=>(lev E K r ls).filter (zd2 E))
 | 0,ls=>by
  have:(ls.flatMap (dfs E K 0))=[]:=List.flatMap_eq_nil_iff.2 λ_ _=>rfl
  rw [this];exact .refl _
 | d+1,ls=>by
  have e:ls.flatMap (dfs E K (d+1))=ls.flatMap λl=>(if zd2 E l=true then [l] else [])++(ext E K l).flatMap (dfs E K d):=rfl
  rw [e,List.range_succ_eq_map,ug,List.flatMap_map];refine (zfQ _ _ ls).trans ?_;rw [ziz];refine .append_left _ ?_;have:=dfs_perm d (ls.flatMap (ext E K));rw [List.flatMap_assoc] at this;exact this
theorem lex_app_same:∀ (l x y:List Int),lexP (l++x) (l++y)=lexP x y
 | [],_,_=>rfl
 | a::l,x,y=>by simp only [y7,lexP];rw [if_neg (by omega),if_neg (by omega)];exact lex_app_same l x y
theorem lex_app_lt:∀ {l m:List Int} (x y:List Int),l.length=m.length→lexP l m<0→lexP (l++x) (m++y)<0
 | [],[],_,_,_,h=>by simp [lexP] at h
 | [],_::_,_,_,h,_=>by simp at h
 | _::_,[],_,_,h,_=>by simp at h
 | a::l,b::m,x,y,hl,h=>by
  simp only [y7,lexP] at h ⊢;split
  ·omega
  ·rename_i h1;rw [if_neg h1] at h;split
   ·rename_i h2;rw [if_pos h2] at h;omega
   ·rename_i h2;rw [if_neg h2] at h;exact lex_app_lt x y (by simpa using hl) h
theorem mem_ext1 {l x i} (h:x∈ext1 E l i):E (lstN l) (fstN l+1+i)=true∧((fstN l+1+i:Nat):Int)∉l∧x=l++[((fstN l+1+i:Nat):Int)]:=by
 unfold ext1 at h;split at h
 ·rename_i hc;simp only [yc,yw,yF] at hc;exact ⟨hc.1,hc.2,by simpa using h⟩
 ·simp at h
theorem ziI {l x} (h:x∈ext E K l):∃ i,i<K - (fstN l+1)∧E (lstN l) (fstN l+1+i)=true∧((fstN l+1+i:Nat):Int)∉l∧x=l++[((fstN l+1+i:Nat):Int)]:=by
 obtain ⟨i,hi,hx⟩:=uw.1 h;exact ⟨i,yX.1 hi,mem_ext1 E hx⟩
theorem ext_pw (l):(ext E K l).Pairwise λx y=>lexP x y<0:=by
 unfold ext;rw [List.pairwise_flatMap];refine ⟨λi _=>?_,List.pairwise_lt_range.imp λ{i j} hij x hx y hy=>?_⟩
 ·unfold ext1;split <;> simp
 ·obtain ⟨-,-,rfl⟩:=mem_ext1 E hx;obtain ⟨-,-,rfl⟩:=mem_ext1 E hy;rw [lex_app_same];simp only [lexP];rw [if_pos (by omega)];omega
theorem lev_pw:∀ (r c:Nat) (ls:List (List Int)),(∀ l∈ls,l.length=c)→(ls.Pairwise λx y=>lexP x y<0)→(∀ l∈lev E K r ls,l.length=c+r)∧(lev E K r ls).Pairwise λx y=>lexP x y<0
 | 0,c,ls,h1,h2=>⟨h1,h2⟩
 | r+1,c,ls,h1,h2=>by
  have:=lev_pw r (c+1) (ls.flatMap (ext E K)) (λx hx=>?_) ?_
  ·exact ⟨λl hl=>by rw [this.1 l hl];omega,this.2⟩
  ·obtain ⟨l,hl,hx⟩:=uw.1 hx;obtain ⟨i,-,-,-,rfl⟩:=ziI E K hx;simp [h1 l hl]
  ·rw [List.pairwise_flatMap];refine ⟨λl _=>ext_pw E K l,?_⟩;refine List.Pairwise.imp_of_mem (λ{a b} ha hb hab x hx y hy=>?_) h2;obtain ⟨i,-,-,-,rfl⟩:=ziI E K hx;obtain ⟨j,-,-,-,rfl⟩:=ziI E K hy;exact lex_app_lt _ _ (by rw [h1 a ha,h1 b hb]) hab
theorem cmpC_lt (x y):cmpC x y<0↔(x.length<y.length∨(x.length=y.length∧lexP x y<0)):=by
 unfold cmpC cmpI;by_cases e:(x.length:Int)<y.length
 ·simp [e];omega
 ·by_cases e2:(y.length:Int)<x.length
  ·simp [e,e2];omega
  ·simp [e,e2];omega
theorem all_pw (d c ls) (h1:∀ l∈ls,l.length=c) (h2:ls.Pairwise λx y=>lexP x y<0):((List.range d).flatMap λr=>(lev E K r ls).filter (zd2 E)).Pairwise λx y=>cmpC x y<0:=by
 rw [List.pairwise_flatMap];refine ⟨λr _=>?_,List.pairwise_lt_range.imp λ{i j} hij x hx y hy=>?_⟩
 ·have:=lev_pw E K r c ls h1 h2;refine List.Pairwise.imp_of_mem (λ{a b} ha hb hab=>?_) (this.2.filter (zd2 E));rw [cmpC_lt];exact .inr ⟨by rw [this.1 a (List.mem_filter.1 ha).1,this.1 b (List.mem_filter.1 hb).1],hab⟩
 ·have hi:=(lev_pw E K i c ls h1 h2).1 x (List.mem_filter.1 hx).1;have hj:=(lev_pw E K j c ls h1 h2).1 y (List.mem_filter.1 hy).1;rw [cmpC_lt];exact .inl (by omega)
end
theorem perm_uniq {α:Type} {R:α→α→Prop} (hanti:∀ a b,R a b→R b a→a=b):∀ {l m:List α},l.Perm m→l.Pairwise R→m.Pairwise R→l=m
 | [],m,h,_,_=>by simpa using h.length_eq.symm
 | a::l,[],h,_,_=>by simpa using h.length_eq
 | a::l,b::m,h,h1,h2=>by
  have e:a=b:=by
   rw [uN] at h1 h2;have ha:=h.mem_iff.1 (uM (a:=a) (l:=l));have hb:=h.mem_iff.2 (uM (a:=b) (l:=m));rcases yI.1 ha with ha | ha
   ·exact ha
   ·rcases yI.1 hb with hb | hb
    ·exact hb.symm
    ·exact hanti _ _ (h1.1 b hb) (h2.1 a ha)
  subst e;rw [perm_uniq hanti ((List.perm_cons a).1 h) (uN.1 h1).2 (uN.1 h2).2]
def ones (K:Nat):List (List Int):=(List.range K).map λ(i:Nat)=>[(i:Int)]
theorem ones_pw (K):(∀ l∈ones K,l.length=1)∧(ones K).Pairwise λx y=>lexP x y<0:=by
 unfold ones;refine ⟨λl hl=>?_,?_⟩
 ·obtain ⟨i,-,rfl⟩:=yU.1 hl;rfl
 ·rw [List.pairwise_map];refine List.pairwise_lt_range.imp λ{i j} hij=>?_
  simp only [lexP];rw [if_pos (by omega)];omega
def cycP (E:Nat→Nat→Bool) (K:Nat):List (List Int):=(List.range K).flatMap λr=>(lev E K r (ones K)).filter (zd2 E)
theorem zdw {α β:Type} {f:α→List β} {B:Nat}:∀ {l:List α},(∀ x∈l,(f x).length≤B)→(l.flatMap f).length≤l.length*B
 | [],_=>by simp
 | x::l,h=>by
  have h1:=h x (by simp);have h2:=zdw (l:=l) λy hy=>h y (by simp [hy])
  simp only [ug,yG,yJ,uj];omega
theorem ext_len {E:Nat→Nat→Bool} {K:Nat} (hK:K≤6) (l:List Int):(ext E K l).length≤6:=by
 have:=zdw (f:=ext1 E l) (B:=1) (l:=List.range (K - (fstN l+1))) λi _=>by unfold ext1;split <;> simp
 unfold ext;rw [List.length_range] at this;omega
theorem dfs_len {E:Nat→Nat→Bool} {K:Nat} (hK:K≤6):∀ (d:Nat) (l:List Int),(dfs E K d l).length≤7 ^ d
 | 0,_=>by simp [dfs]
 | d+1,l=>by
  have h1:=ext_len (E:=E) hK l;have h2:=zdw (f:=dfs E K d) (B:=7 ^ d) (l:=ext E K l) λx _=>dfs_len hK d x
  have h3:(ext E K l).length*7 ^ d≤6*7 ^ d:=yZ _ h1;have h4:1≤7 ^ d:=Nat.one_le_pow _ _ (by omega);simp only [dfs,yG,uG];have h5:(if zd2 E l=true then [l] else []).length≤1:=by split <;> simp
  omega
structure PathL (K:Nat) (l:List Int):Prop where
 nd:l.Nodup
 pos:1≤l.length
 mem:∀ x∈l,0≤x∧x<(K:Int)
theorem PathL.len {K l} (h:PathL K l):l.length≤K:=nodup_le h.nd h.mem
theorem PathL.snoc {K l} (h:PathL K l) {b} (hb:b<K) (hm:(b:Int)∉l):PathL K (l++[(b:Int)]):=by
 refine ⟨?_,by simp,λx hx=>?_⟩
 ·rw [List.nodup_append];exact ⟨h.nd,by simp,λa ha b' hb' e=>by simp at hb';subst hb';subst e;exact hm ha⟩
 ·rcases yK.1 hx with hx | hx
  ·exact h.mem x hx
  ·simp at hx;subst hx;omega
theorem PathL.fst {K l} (h:PathL K l):idx l 0=some ((fstN l:Nat):Int)∧fstN l<K:=by
 cases l with
 | nil=>have:=h.pos;simp at this
 | cons x t=>
  have:=h.mem x (by simp);have e:fstN (x::t)=x.toNat:=rfl;rw [e];refine ⟨?_,by omega⟩;have:idx (x::t) 0=some x:=rfl;rw [this];congr 1;omega
theorem PathL.lst {K l} (h:PathL K l) (h6:K≤6):idx l (sub64 (l.length:Int) 1)=some ((lstN l:Nat):Int)∧lstN l<K:=by
 have hp:=h.pos;have hK:=h.len;have hi:l.length - 1<l.length:=by omega
 have hm:=h.mem _ (yk hi);have e:l.getLastD 0=l[l.length - 1]:=by
  rw [List.getLastD_eq_getLast?,List.getLast?_eq_getElem?,yA hi];rfl
 have e2:lstN l=l[l.length - 1].toNat:=by unfold lstN;rw [e]
 refine ⟨?_,by omega⟩;rw [zfI (by omega) (by omega),za hi,e2];congr 1;omega
theorem visit_eq {n:Nat} {g:DGraph} {K:Nat} (hg:GraphOK g K) (hn:1000000≤n):∀ (d k:Nat) (l:List Int) (out:List (List Int)),PathL K l→K - l.length=d→d<k→out.length≤1000000 - 7 ^ (d+1)→d≤5 →
  zT n g k l out=some (out++dfs (hasP g) K (d+1) l):=by
 intro d
 induction d using Nat.strongRecOn with
 | ind d ih=>
  intro k l out hp hd hk ho hd5;obtain ⟨k,rfl⟩:∃ k',k=k'+1:=⟨k - 1,by omega⟩
  have hK:=hg.le;have hl1:=hp.pos;have hl2:=hp.len;have hp7:7≤7 ^ (d+1):=Nat.le_self_pow (by omega) 7;obtain ⟨e2,hfK⟩:=hp.fst;obtain ⟨e1,hlK⟩:=hp.lst hK;have h7:7 ^ (d+1)=7*7 ^ d:=by rw [uG];omega
  have hone:1≤7 ^ d:=Nat.one_le_pow _ _ (by omega);have h77:7 ^ (d+1)≤117649:=by
   have:7 ^ (d+1)≤7 ^ 6:=uy (by omega) (by omega);simpa using this
  simp only [zT,e1,e2,ya,has_eq hg hlK hfK];have loop:∀ out1:List (List Int),out1.length≤out.length+1→loopF (zT.l1 n g (zT n g k) l ((lstN l:Nat):Int)) n (add64 ((fstN l:Nat):Int) 1,out1)=some (out1++(ext (hasP g) K l).flatMap (dfs (hasP g) K d)):=by
   intro out1 ho1;rw [zc (by omega)];have:=zfb (body:=zT.l1 n g (zT n g k) l ((lstN l:Nat):Int)) (k:=K - (fstN l+1)) (n:=n) (st:=λ(o:List (List Int)) i=>(((fstN l+1+i:Nat):Int),o)) (λi=>(ext1 (hasP g) l i).flatMap (dfs (hasP g) K d)) some (7 ^ d) out1
    (λi hi=>?_) (λrec o i hi hI=>?_) (λrec o hI=>?_) (by omega)
   ·simp only [uu] at this;rw [this];unfold ext;rw [List.flatMap_assoc]
   ·have h1:=zdw (f:=dfs (hasP g) K d) (B:=7 ^ d) (l:=ext1 (hasP g) l i) λx _=>dfs_len hK d x
    have h2:(ext1 (hasP g) l i).length≤1:=by unfold ext1;split <;> simp
    have h3:(ext1 (hasP g) l i).length*7 ^ d≤1*7 ^ d:=yZ _ h2;omega
   ·have hb:fstN l+1+i<K:=by omega
    have hlt:decide (((fstN l+1+i:Nat):Int)<g.size)=true:=by rw [hg.size];simp;omega
    have hnx:add64 ((fstN l+1+i:Nat):Int) 1=((fstN l+1+(i+1):Nat):Int):=by rw [zc (by omega)];rfl
    simp only [zT.l1,hlt,if_true,has_eq hg hlK hb,ya,hnx];unfold ext1;by_cases hh:hasP g (lstN l) (fstN l+1+i)=true
    ·rw [if_pos hh,Contains_Lint_eq (by omega) hn,ya];by_cases hm:((fstN l+1+i:Nat):Int)∈l
     ·rw [if_pos (by simpa using hm),if_neg (by simp only [hm,decide_true,uf,Bool.and_false];simp)];simp
     ·rw [if_neg (by simpa using hm),zW (by simp;omega),ya,yV,zW (by simp;omega),ya,if_pos (by simp only [hh,hm,decide_false,ux,uQ])];have hp2:=hp.snoc hb hm;have hlen:=hp2.len;simp only [yG,yJ,uz] at hlen;have hd1:1≤d:=by omega
      have h6:i*7 ^ d≤5*7 ^ d:=yZ _ (by omega);have:=ih (d - 1) (by omega) k (l++[((fstN l+1+i:Nat):Int)]) o hp2 (by simp;omega) (by omega) (by rw [show d - 1+1=d by omega];omega) (by omega);rw [show d - 1+1=d by omega] at this;rw [this,ya];simp
    ·rw [if_neg hh,if_neg (by simp only [yH] at hh;simp [hh])];simp
   ·have hge:decide (((fstN l+1+(K - (fstN l+1)):Nat):Int)<g.size)=false:=by rw [hg.size];simp;omega
    simp only [zT.l1,hge,ye,if_false]
  have hcl:zd2 (hasP g) l=hasP g (lstN l) (fstN l):=rfl;simp only [dfs,hcl];by_cases hh:hasP g (lstN l) (fstN l)=true
  ·rw [if_pos hh,if_pos hh,zW (by simp;omega),ya,yV,zW (by simp;omega),ya,loop _ (by simp),yB]
  ·rw [if_neg hh,if_neg hh,loop _ (by omega),yV]
theorem cycles_eq {n g K} (hg:GraphOK g K) (hn:1000000≤n):loopF (digraph_cycles.l1 n g) n (0,[])=some ((ones K).flatMap (dfs (hasP g) K K)):=by
 have hK:=hg.le;have hd:7 ^ K≤117649:=by
  have:7 ^ K≤7 ^ 6:=uy (by omega) (by omega);simpa using this
 have:=zfb (body:=digraph_cycles.l1 n g) (k:=K) (n:=n) (st:=λ(o:List (List Int)) i=>((i:Int),o)) (λi=>dfs (hasP g) K K [(i:Int)]) some 117649 []
  (λi hi=>ue (dfs_len hK K _) hd) (λrec o i hi hI=>?_) (λrec o hI=>?_) (by omega)
 ·rw [ones,List.flatMap_map];simpa using this
 ·have hlt:decide ((i:Int)<g.size)=true:=by rw [hg.size];simp;omega
  have h5:i*117649≤5*117649:=yZ _ (by omega);have hv:=visit_eq hg hn (K - 1) n [(i:Int)] o ⟨by simp,by simp,by simp;omega⟩ (by simp) (by omega) (by rw [show K - 1+1=K by omega];simp at hI;omega) (by omega);rw [show K - 1+1=K by omega] at hv;simp only [digraph_cycles.l1,hlt,if_true,hv,ya];rw [zc (by omega)]
 ·have hge:decide ((K:Int)<g.size)=false:=by rw [hg.size];simp
  simp only [digraph_cycles.l1,hge,ye,if_false]
theorem mem_dfs {E K}:∀ (d:Nat) {l x:List Int},PathL K l→x∈dfs E K d l→PathL K x
 | 0,_,_,_,h=>by simp [dfs] at h
 | d+1,l,x,hp,h=>by
  simp only [dfs,yK,uw] at h;rcases h with h | ⟨y,hy,hx⟩
  ·split at h
   ·simp at h;subst h;exact hp
   ·simp at h
  ·obtain ⟨i,hi,-,hm,rfl⟩:=ziI E K hy;exact mem_dfs d (hp.snoc (by omega) hm) hx
theorem one_path {K i} (hi:i<K):PathL K [(i:Int)]:=⟨by simp,by simp,by simp;omega⟩
theorem zix {n:Nat} {edges:List Bool} {K:Nat} (h1:1≤K) (h6:K≤6) (hl:edges.length=K*K) (hn:1000000≤n):zcN n (K:Int) edges=some (cycP (hasP ⟨(K:Int),edges⟩) K):=by
 have hg:GraphOK ⟨(K:Int),edges⟩ K:=⟨rfl,h6,hl⟩
 have h4:K*K≤36:=yN h6 h6;have e:mul64 (K:Int) (K:Int)=((K*K:Nat):Int):=by
  unfold mul64;rw [zaj (by rw [← y0];omega) (by rw [← y0];omega)];simp
 have hopen:zeK n (K:Int) edges=some (⟨(K:Int),edges⟩,true):=by
  unfold zeK;rw [e,hl];simp;omega
 have hd:7 ^ K≤117649:=by
  have:7 ^ K≤7 ^ 6:=uy (by omega) (by omega);simpa using this
 unfold zcN;rw [hopen,ya,if_neg (by simp),cycles_eq hg hn,ya];have hmem:∀ x∈(ones K).flatMap (dfs (hasP ⟨(K:Int),edges⟩) K K),PathL K x:=λx hx=>by
  obtain ⟨l,hl,hx⟩:=uw.1 hx;obtain ⟨i,hi,rfl⟩:=yU.1 hl;exact mem_dfs K (one_path (yX.1 hi)) hx
 have hlen:((ones K).flatMap (dfs (hasP ⟨(K:Int),edges⟩) K K)).length≤6*117649:=by
  have:=zdw (f:=dfs (hasP ⟨(K:Int),edges⟩) K K) (B:=117649) (l:=ones K) λx _=>ue (dfs_len h6 K x) hd
  have e:(ones K).length=K:=by simp [ones]
  rw [e] at this;exact ue this (yZ _ h6)
 obtain ⟨s1,s2⟩:=sortO_of (f:=zcn n) (c:=cmpC) (l:=(ones K).flatMap (dfs (hasP ⟨(K:Int),edges⟩) K K)) (λx hx y _=>compare_eq (by have:=(hmem x hx).len;omega) hn) (λx=>by have:=zgO x x;omega) (λ_ _ _=>cmpC_trans) (λ_ _ _=>cmpC_ntrans) (by omega);rw [s1];refine congrArg some ?_;have hp:=sortF_perm s2;have hs:=sortF_sorted s2;refine perm_uniq (R:=λx y=>¬ cmpC y x<0) (λa b h1 h2=>?_) (hp.trans (dfs_perm _ K K (ones K))) ?_ ?_
 ·have:=zgO a b;exact cmpC_zero (by omega)
 ·refine List.Pairwise.imp_of_mem (λ{a b} ha hb hab=>?_) hs;have ha':=hmem a (hp.mem_iff.1 ha);have hb':=hmem b (hp.mem_iff.1 hb);rw [compare_eq (by have:=hb'.len;omega) hn] at hab;exact hab
 ·refine (all_pw _ K K 1 (ones K) (ones_pw K).1 (ones_pw K).2).imp λ{a b} h=>?_
  have:=zgO a b;omega
theorem loopF_app2 {γ δ S R:Type} {body:(S→Option R)→S→Option R} {k n:Nat} {st:List γ→List δ→Nat→S} (g:Nat→List γ) (h:Nat→List δ) (fin:List γ→List δ→Option R) (B:Nat) (b0:List γ) (c0:List δ) (hB:∀ i,i<k→(g i).length≤B) (hC:∀ i,i<k→(h i).length≤B)
  (step:∀ rec (b:List γ) (c:List δ) i,i<k→b.length≤b0.length+i*B→c.length≤c0.length+i*B→body rec (st b c i)=rec (st (b++g i) (c++h i) (i+1))) (done:∀ rec (b:List γ) (c:List δ),b.length≤b0.length+k*B→c.length≤c0.length+k*B→body rec (st b c k)=fin b c) (hn:k<n) :
  loopF body n (st b0 c0 0)=fin (b0++(List.range k).flatMap g) (c0++(List.range k).flatMap h):=by
 have:=zbE (σ:=List γ×List δ) (body:=body) (len:=k) (st:=λs i=>st s.1 s.2 i) (g:=λi s=>fin (s.1++(List.range' i (k - i)).flatMap g) (s.2++(List.range' i (k - i)).flatMap h)) (λi s=>s.1.length≤b0.length+i*B∧s.2.length≤c0.length+i*B) (λrec i s hi hI hr=>?_) (λrec s hI=>?_) n 0 (b0,c0) (yp _) (by omega) (by simp)
 ·simpa [List.range_eq_range'] using this
 ·have h1:=hB i hi;have h2:=hC i hi;rw [step rec s.1 s.2 i hi hI.1 hI.2,hr (s.1++g i,s.2++h i) ⟨by simp only [yG];rw [uj];omega,by simp only [yG];rw [uj];omega⟩];have:List.range' i (k - i)=i::List.range' (i+1) (k - (i+1)):=by rw [show k - i=(k - (i+1))+1 by omega,List.range'_succ]
  rw [this,ug,ug,yB,yB]
 ·rw [done rec s.1 s.2 hI.1 hI.2];simp
theorem ref19_has_eq {n l v} (hl:l.length<1000000) (hn:1000000≤n):zbZ n l v=some (decide (v∈l)):=by
 unfold zbZ;have:=zay (body:=zbZ.l1 n l v) (l:=l) (n:=n) (st:=λi=>(i:Int)) (λx=>!(x==v)) (some true) (some false) (λrec i hi=>?_) (λrec=>?_) (by omega)
 ·rw [show loopF (zbZ.l1 n l v) n 0=loopF (zbZ.l1 n l v) n ((0:Nat):Int) from rfl,this];by_cases hm:v∈l
  ·rw [if_neg (by simp only [yo,yw,ub];exact λh=>h v hm rfl)];simp [hm]
  ·rw [if_pos (by simp only [yo,yw,ub];exact λx hx e=>hm (e▸hx))];simp [hm]
 ·simp only [zbZ.l1,zo hi,if_true,za hi,ya];rw [zc (i:=i) (by omega)];cases l[i]==v <;> simp
 ·simp only [zbZ.l1,zap,ye,if_false]
theorem ref19_with_eq {n l v} (hl:l.length<1000000) (hn:1000000≤n):zcG n l v=some (l++[v]):=by
 unfold zcG;have:=loopF_map (body:=zcG.l1 n l v) (l:=l) (n:=n) (st:=λb i=>(b,(i:Int))) (λx:Int=>x) (λb=>some (b++[v])) [] (λrec b i hi hb=>?_) (λrec b hb=>?_) (by omega)
 ·simpa using this
 ·simp only [zcG.l1,zo hi,if_true,za hi,ya];rw [zW (by simp at hb;simp;omega),ya,zc (by omega)]
 ·simp only [zcG.l1,zap,ye,if_false];rw [zW (by simp at hb;simp;omega)];rfl
theorem edgeP_eq {edges:List Bool} {K a b:Nat} (hg:GraphOK ⟨(K:Int),edges⟩ K) (ha:a<K) (hb:b<K):idx edges (add64 (mul64 (a:Int) (K:Int)) (b:Int))=some (hasP ⟨(K:Int),edges⟩ a b):=by
 have:=has_eq (n:=0) hg ha hb;unfold zaS at this;simpa using this
theorem lev_path {E K}:∀ (r:Nat) {ls:List (List Int)},(∀ l∈ls,PathL K l)→∀ l∈lev E K r ls,PathL K l
 | 0,_,h=>h
 | r+1,ls,h=>lev_path r λx hx=>by
  obtain ⟨l,hl,hx⟩:=uw.1 hx;obtain ⟨i,hi,-,hm,rfl⟩:=ziI E K hx;exact (h l hl).snoc (by omega) hm
theorem lev_len {E K} (h6:K≤6):∀ (r:Nat) (ls:List (List Int)),(lev E K r ls).length≤ls.length*7 ^ r
 | 0,ls=>by simp [lev]
 | r+1,ls=>by
  have h1:=lev_len (E:=E) h6 r (ls.flatMap (ext E K));have h2:=zdw (f:=ext E K) (B:=6) (l:=ls) λx _=>ext_len h6 x
  have h3:(ls.flatMap (ext E K)).length*7 ^ r≤ls.length*7*7 ^ r:=yZ _ (by omega);rw [uG,Nat.mul_comm (7 ^ r) 7,← Nat.mul_assoc];exact ue h1 h3
theorem ones_path {K}:∀ l∈ones K,PathL K l:=λl hl=>by
 obtain ⟨i,hi,rfl⟩:=yU.1 hl;exact one_path (yX.1 hi)
theorem filter_range {α:Type} (p:α→Bool) (l:List α) (d:α):(List.range l.length).flatMap (λi=>if p (l.getD i d)=true then [l.getD i d] else [])=l.filter p:=by
 rw [← ziz p l];have e:l=(List.range l.length).map λi=>l.getD i d:=by
  refine uK (by simp) λi h1 h2=>?_
  simp [y9,yA h1]
 conv=>rhs;rw [e]
 rw [List.flatMap_map]
theorem flat_range {α β:Type} (f:α→List β) (l:List α) (d:α):(List.range l.length).flatMap (λi=>f (l.getD i d))=l.flatMap f:=by
 have e:l=(List.range l.length).map λi=>l.getD i d:=by
  refine uK (by simp) λi h1 h2=>?_
  simp [y9,yA h1]
 conv=>rhs;rw [e]
 rw [List.flatMap_map]
theorem ref19_round {n:Nat} {edges:List Bool} {K:Nat} (h6:K≤6) (hl:edges.length=K*K) (hn:1000000≤n) {ls out:List (List Int)} {r:Int} {rec:List (List Int)×List (List Int)×Int→Option (List (List Int))} (hp:∀ l∈ls,PathL K l) (hlen:ls.length≤800000) (ho:out.length≤100000000) :
  loopF (zB.l3 n (K:Int) edges ls r rec) n (out,([]:List (List Int)),0)=rec (out++ls.filter (zd2 (hasP ⟨(K:Int),edges⟩)),ls.flatMap (ext (hasP ⟨(K:Int),edges⟩) K),add64 r 1):=by
 have hg:GraphOK ⟨(K:Int),edges⟩ K:=⟨rfl,h6,hl⟩
 have:=loopF_app2 (body:=zB.l3 n (K:Int) edges ls r rec) (k:=ls.length) (n:=n) (st:=λb c i=>(b,c,(i:Int))) (λi=>if zd2 (hasP ⟨(K:Int),edges⟩) (ls.getD i [])=true then [ls.getD i []] else []) (λi=>ext (hasP ⟨(K:Int),edges⟩) K (ls.getD i []))
  (λb c=>rec (b,c,add64 r 1)) 6 out [] (λi _=>by split <;> simp) (λi _=>ext_len h6 _) (λrec2 b c i hi hb hc=>?_) (λrec2 b c hb hc=>?_) (by omega)
 ·rw [filter_range,flat_range] at this;simpa using this
 ·have e:ls.getD i []=ls[i]:=by simp [y9,hi]
  have hpl:=hp _ (yk hi);obtain ⟨e2,hfK⟩:=hpl.fst;obtain ⟨e1,hlK⟩:=hpl.lst h6;have hlK6:=hpl.len;rw [e];have inner:∀ b1:List (List Int),loopF (zB.l4 n (K:Int) edges ls (i:Int) rec2 ((lstN ls[i]:Nat):Int) b1) n (c,add64 ((fstN ls[i]:Nat):Int) 1)=rec2 (b1,c++ext (hasP ⟨(K:Int),edges⟩) K ls[i],((i+1:Nat):Int)):=by
   intro b1;rw [zc (by omega)];have:=zfb (body:=zB.l4 n (K:Int) edges ls (i:Int) rec2 ((lstN ls[i]:Nat):Int) b1) (k:=K - (fstN ls[i]+1)) (n:=n) (st:=λ(o:List (List Int)) j=>(o,((fstN ls[i]+1+j:Nat):Int))) (λj=>ext1 (hasP ⟨(K:Int),edges⟩) ls[i] j) (λo=>rec2 (b1,o,add64 (i:Int) 1)) 1 c
    (λj _=>by unfold ext1;split <;> simp) (λrec3 o j hj hI=>?_) (λrec3 o hI=>?_) (by omega)
   ·simp only [uu] at this;rw [this,zc (i:=i) (by omega)];rfl
   ·have hb:fstN ls[i]+1+j<K:=by omega
    have hlt:decide (((fstN ls[i]+1+j:Nat):Int)<(K:Int))=true:=by simp;omega
    have hnx:add64 ((fstN ls[i]+1+j:Nat):Int) 1=((fstN ls[i]+1+(j+1):Nat):Int):=by rw [zc (by omega)];rfl
    simp only [zB.l4,hlt,if_true,jn,edgeP_eq hg hlK hb,za hi,ya,yj,yf,ref19_has_eq (show ls[i].length<1000000 by omega) hn,ref19_with_eq (show ls[i].length<1000000 by omega) hn,yy,grd,hnx];unfold ext1;split
    ·rw [zW (by simp at hI hc;simp;omega),ya]
    ·simp
   ·have hge:decide (((fstN ls[i]+1+(K - (fstN ls[i]+1)):Nat):Int)<(K:Int))=false:=by simp;omega
    simp only [zB.l4,hge,ye,if_false]
  have hcl:zd2 (hasP ⟨(K:Int),edges⟩) ls[i]=hasP ⟨(K:Int),edges⟩ (lstN ls[i]) (fstN ls[i]):=rfl;simp only [zB.l3,zo hi,if_true,jn,za hi,ya,e1,e2,edgeP_eq hg hlK hfK,hcl];split
  ·rw [zW (by simp;omega),ya,inner]
  ·rw [inner,ur]
 ·simp only [zB.l3,zap,ye,if_false]
theorem ref19_Cycles_eq {n:Nat} {edges:List Bool} {K:Nat} (h1:1≤K) (h6:K≤6) (hl:edges.length=K*K) (hn:1000000≤n):zB n (K:Int) edges=some (cycP (hasP ⟨(K:Int),edges⟩) K):=by
 have h4:K*K≤36:=yN h6 h6;have e:mul64 (K:Int) (K:Int)=((K*K:Nat):Int):=by
  unfold mul64;rw [zaj (by rw [← y0];omega) (by rw [← y0];omega)];simp
 have hv:zfF n (K:Int) edges=some true:=by
  unfold zfF;rw [e,hl];simp;omega
 unfold zB;rw [hv,ya,if_neg (by simp)];have hones:(ones K).length=K:=by simp [ones]
 have rounds:loopF (zB.l2 n (K:Int) edges) n (([]:List (List Int)),ones K,0)=some (cycP (hasP ⟨(K:Int),edges⟩) K):=by
  have:=zbE (σ:=List (List Int)×List (List Int)) (body:=zB.l2 n (K:Int) edges) (len:=K) (st:=λs i=>(s.1,s.2,(i:Int))) (g:=λ_ _=>some (cycP (hasP ⟨(K:Int),edges⟩) K))
   (λi s=>s.1=(List.range i).flatMap (λr=>(lev (hasP ⟨(K:Int),edges⟩) K r (ones K)).filter (zd2 (hasP ⟨(K:Int),edges⟩)))∧s.2=lev (hasP ⟨(K:Int),edges⟩) K i (ones K)∧s.1.length≤i*800000) (λrec i s hi hI hr=>?_) (λrec s hI=>?_) n 0 ([],ones K) (yp _) (by omega) ⟨rfl,rfl,by simp⟩
  ·exact this
  ·obtain ⟨s1,s2⟩:=s;obtain ⟨i1,i2,i3⟩:=hI;simp only at i1 i2 i3;have hlen:s2.length≤800000:=by
    have:=lev_len (E:=hasP ⟨(K:Int),edges⟩) h6 i (ones K);rw [hones] at this;have h7:7 ^ i≤7 ^ 5:=uy (by omega) (by omega);have h8:K*7 ^ i≤6*7 ^ 5:=yN h6 h7;rw [i2];simp only [Nat.reducePow,Nat.reduceMul] at h8;omega
   have hpath:∀ l∈s2,PathL K l:=by rw [i2];exact lev_path i ones_path
   simp only [zB.l2,zgl hi,if_true];rw [ref19_round h6 hl hn hpath hlen (by omega),zc (by omega)];refine hr (_,_) ⟨?_,?_,?_⟩
   ·simp only;rw [uJ,List.flatMap_append,← i1,i2];simp
   ·rw [lev_succ,← i2];rfl
   ·simp only [yG];have:=List.length_filter_le (zd2 (hasP ⟨(K:Int),edges⟩)) s2;rw [uj];omega
  ·obtain ⟨s1,s2⟩:=s;obtain ⟨i1,-,-⟩:=hI;simp only at i1;simp only [zB.l2,zei (yn K),ye,if_false];rw [i1];rfl
 have:=zfb (body:=zB.l1 n (K:Int) edges) (k:=K) (n:=n) (st:=λ(b:List (List Int)) i=>(b,(i:Int))) (λi=>[[(i:Int)]]) (λb=>loopF (zB.l2 n (K:Int) edges) n (([]:List (List Int)),b,0)) 1 []
  (λi _=>by simp) (λrec b i hi hb=>?_) (λrec b hb=>?_) (by omega)
 ·have eo:(List.range K).flatMap (λi:Nat=>[[(i:Int)]])=ones K:=by
   unfold ones;rw [List.map_eq_flatMap]
  rw [eo,yV,rounds] at this;exact this
 ·simp only [zB.l1,zgl hi,if_true];rw [zW (by simp at hb;simp;omega),ya,zc (by omega)]
 ·simp only [zB.l1,zei (yn K),ye,if_false]
structure SameA (a:Action):Prop where
 add:∀ c,addP c a.effect.delta 0=zcf a.effect.delta c
 len:a.effect.delta.length≤20
section
variable {n:Nat} {c:Constraint} {a b:Action} {K:Nat} (ha:SameA a) (hb:SameA b) (h6:K≤6) (hn:1000000≤n)
include ha hb h6 hn
end


section
variable {E:Nat→Nat→Bool} {K:Nat}
theorem anyR_iff {p}:∀ {k i:Nat},anyR p i k=true↔∃ j,i≤j∧j<i+k∧p j=true
 | 0,i=>by simp [anyR];omega
 | k+1,i=>by
  simp only [anyR,yz,anyR_iff (k:=k) (i:=i+1)];constructor
  ·rintro (h | ⟨j,h1,h2,h3⟩)
   ·exact ⟨i,yn _,by omega,h⟩
   ·exact ⟨j,by omega,by omega,h3⟩
  ·rintro ⟨j,h1,h2,h3⟩;by_cases e:i=j
   ·subst e;exact .inl h3
   ·exact .inr ⟨j,by omega,by omega,h3⟩
theorem zhT:∀ (r:Nat) (ls:List (List Int)),lev E K r ls=ls.flatMap λl=>lev E K r [l]
 | 0,ls=>by simp [lev]
 | r+1,ls=>by
  have e:∀ l,lev E K (r+1) [l]=(ext E K l).flatMap λx=>lev E K r [x]:=λl=>by
   have:lev E K (r+1) [l]=lev E K r (ext E K l):=by simp [lev]
   rw [this,zhT r]
  simp only [e];rw [lev,zhT r,List.flatMap_assoc]
theorem fstN_snoc {l x} (h:l≠[]):fstN (l++[x])=fstN l:=by
 cases l with
 | nil=>exact absurd rfl h
 | cons a t=>rfl
theorem lstN_snoc {l:List Int} {x:Nat}:lstN (l++[(x:Int)])=x:=by simp [lstN]
theorem mem_ext_iff {l x}:x∈ext E K l↔∃ j,fstN l+1≤j∧j<K∧E (lstN l) j=true∧(j:Int)∉l∧x=l++[(j:Int)]:=by
 constructor
 ·intro h;obtain ⟨i,h1,h2,h3,h4⟩:=ziI E K h;exact ⟨fstN l+1+i,by omega,by omega,h2,h3,h4⟩
 ·rintro ⟨j,h1,h2,h3,h4,rfl⟩;refine uw.2 ⟨j - (fstN l+1),yX.2 (by omega),?_⟩;have e:fstN l+1+(j - (fstN l+1))=j:=by omega
  unfold ext1;rw [e,if_pos (by simp [h3,h4])];simp
theorem neP_lev:∀ (d:Nat) (path:List Int) (first last:Nat),path≠[]→fstN path=first→lstN path=last →
  (neP E K d path first last=true↔∃ x∈lev E K d [path],zd2 E x=true)
 | 0,path,first,last,_,h1,h2=>by
  subst h1 h2;simp [neP,lev,zd2]
 | d+1,path,first,last,h0,h1,h2=>by
  subst h1 h2;have e:lev E K (d+1) [path]=lev E K d (ext E K path):=by simp [lev]
  rw [e,zhT,neP,anyR_iff];simp only [uw];constructor
  ·rintro ⟨j,j1,j2,j3⟩;simp only [yc,yw,ud,yF,Bool.not_eq_false'] at j3;obtain ⟨⟨j3,j4⟩,j5⟩:=j3;obtain ⟨x,x1,x2⟩:=(neP_lev d (path++[(j:Int)]) (fstN path) j (by simp) (fstN_snoc h0) lstN_snoc).1 j5;exact ⟨x,⟨_,mem_ext_iff.2 ⟨j,j1,by omega,j4,j3,rfl⟩,x1⟩,x2⟩
  ·rintro ⟨x,⟨y,y1,y2⟩,x2⟩;obtain ⟨j,j1,j2,j3,j4,rfl⟩:=mem_ext_iff.1 y1;refine ⟨j,j1,by omega,?_⟩;simp only [yc,yw,ud,yF,Bool.not_eq_false'];exact ⟨⟨j4,j3⟩,(neP_lev d (path++[(j:Int)]) (fstN path) j (by simp) (fstN_snoc h0) lstN_snoc).2 ⟨x,y2,x2⟩⟩
theorem mem_cycP {x}:x∈cycP E K↔∃ r,r<K∧x∈lev E K r (ones K)∧zd2 E x=true:=by
 simp only [cycP,uw,yX,List.mem_filter]
theorem acycE_iff:acycE E K=true↔∀ x,x∉cycP E K:=by
 unfold acycE;rw [allR_iff];constructor
 ·intro h x hx;obtain ⟨r,r1,r2,r3⟩:=mem_cycP.1 hx;rw [zhT] at r2;obtain ⟨l,l1,l2⟩:=uw.1 r2;obtain ⟨a,a1,rfl⟩:=yU.1 l1;have:=zg5.1 (h (r+1) (by omega) (by omega)) a (yX.1 a1);rw [Nat.add_sub_cancel,(neP_lev r [(a:Int)] a a (by simp) (by simp [fstN]) (by simp [lstN])).2 ⟨x,l2,r3⟩] at this;cases this
 ·intro h len h1 h2;refine zg5.2 λa ha=>?_
  cases hn:neP E K (len - 1) [(a:Int)] a a with
  | false=>rfl
  | true=>
   obtain ⟨x,x1,x2⟩:=(neP_lev (len - 1) [(a:Int)] a a (by simp) (by simp [fstN]) (by simp [lstN])).1 hn;refine absurd (mem_cycP.2 ⟨len - 1,by omega,?_,x2⟩) (h x);rw [zhT];exact uw.2 ⟨_,yU.2 ⟨a,yX.2 ha,rfl⟩,x1⟩
theorem cycP_path {x} (h:x∈cycP E K):PathL K x:=by
 obtain ⟨r,-,r2,-⟩:=mem_cycP.1 h;exact lev_path r ones_path x r2
structure Walk (E:Nat→Nat→Bool) (K p:Nat) (f:Nat→Nat):Prop where
 per:∀ i,f (i+p)=f i
 lt:∀ i,f i<K
 edge:∀ i,E (f i) (f (i+1))=true
end
theorem sto_at {α:Type} {l:List α} {i:Nat} {x:α} (h:i<l.length):sto l (i:Int) x=some (l.set i x):=by
 unfold sto;simp [h]


section
variable {c:Constraint} {K:Nat} {box:List Range} {s:List Int} {da db:List Change}
end
def relB (q:Question) (i:Int):Bool:=q.target.hold||(q.target.index != i)
def zfs (m:Model) (q:Question) (a b:Action) (s:List Int):Bool:=
 if q.target.hold=true then !zae ⟨0,0,(idx a.effect.hold q.target.index).getD default,0,0⟩ (plusP s b.effect.delta)
 else !zae ((idx m.constraints q.target.index).getD default) (plusP (plusP s a.effect.delta) b.effect.delta)
def zgF (m:Model) (q:Question) (rows:List Int) (a b:Action) (s:List Int):Bool:=
 (possP m a.effect s&&possP m b.effect s)&&(rows.all (λi=>!(relB q i&&!zae ((idx m.constraints i).getD default) (plusP (plusP s a.effect.delta) b.effect.delta)))&&zfs m q a b s)
structure Scene (n:Nat) (m:Model) (q:Question) (a b:Action) (s:List Int):Prop where
 small:SmallM m
 valid:ValidM m
 quest:zes m q=true
 ha:idx m.actions q.e=some a
 hb:idx m.actions q.f=some b
 box:inBox (boxM m) s=true
 len:(boxM m).length≤100
 fuel:4294967296≤n
section
variable {n:Nat} {m:Model} {q:Question} {rows:List Int} {a b:Action} {s:List Int}
theorem holds_row {c} (hk:c.kind=0) (x):zae c x=decide (sumP x c.row.terms≤c.row.bound):=by
 unfold zae;rw [if_neg (by omega)]
end
theorem badR_ok {m} {rows:List Int} (h:(rows.all λx=>!badR m x)=true):∀ i∈rows,∃ (k:Nat) (hk:k<m.constraints.length),i=(k:Int)∧m.constraints[k].kind=0:=λi hi=>by
 have:=yo.1 h i hi;unfold badR at this;simp only [yw,ud,yF,Int.not_lt,Int.not_le,bne_eq_false_iff_eq] at this;obtain ⟨⟨h1,h2⟩,h3⟩:=this;obtain ⟨k,rfl⟩:=yQ h1;have hk:k<m.constraints.length:=by omega
 rw [za hk,yf] at h3;exact ⟨k,hk,rfl,h3⟩
def elemP (s:Swap) (x:Int):Int:=if x=s.a then s.b else if x=s.b then s.a else x
structure SwapOK (sizes:List Int) (s:Swap):Prop where
 sort:colOK sizes s.sort=true
 a:0≤s.a
 ab:s.a<s.b
 b:s.b<sizes.getD s.sort.toNat 0
def nK (sizes:List Int) (c:Int):Nat:=(sizes.getD c.toNat 0).toNat
def colS (s:Swap) (c:Int) (x:Nat):Nat:=if c=s.sort then (elemP s (x:Int)).toNat else x
theorem nK_ok {sizes:List Int} (hs:sizes.all zbn=true) {c} (hc:colOK sizes c=true):((nK sizes c:Nat):Int)=sizes.getD c.toNat 0∧1≤nK sizes c∧nK sizes c≤6:=by
 have:=yo.1 hs _ (zav (zej hc));simp only [zbn,yc,yd] at this;unfold nK;omega
section
variable {sizes:List Int} {s:Swap} (h:SwapOK sizes s)
include h
end
def digP (sizes:List Int) (s:Swap):List Int→Nat→Nat
 | [],_=>0
 | c::cs,r=>colS s c (r % nK sizes c)+nK sizes c*digP sizes s cs (r / nK sizes c)
def wN (sizes:List Int):List Int→Nat
 | []=>1
 | c::cs=>nK sizes c*wN sizes cs
theorem wN_append (sizes:List Int):∀ l m:List Int,wN sizes (l++m)=wN sizes l*wN sizes m
 | [],m=>by simp [wN]
 | c::l,m=>by simp only [y7,wN,wN_append sizes l m,Nat.mul_assoc]
theorem width_w {sizes:List Int} (hs:sizes.all zbn=true):∀ (cols:List Int) (x:Nat),cols.all (colOK sizes)=true→x*6 ^ cols.length≤1000000→zY sizes cols (x:Int)=((x*wN sizes cols.reverse:Nat):Int)
 | [],x,_,_=>by simp [zY,wN]
 | c::cols,x,hc,hx=>by
  simp only [um,yc] at hc;obtain ⟨k1,k2,k3⟩:=nK_ok hs hc.1;rw [yJ,uG] at hx;have hp:1≤6 ^ cols.length:=Nat.one_le_pow _ _ (by decide);have h1:x*nK sizes c*6 ^ cols.length≤1000000:=by
   refine ue ?_ hx;rw [Nat.mul_assoc];refine Nat.mul_le_mul_left _ ?_;rw [Nat.mul_comm];exact Nat.mul_le_mul_left _ k3
  have h2:x*nK sizes c≤1000000:=ue (Nat.le_mul_of_pos_right _ hp) h1;have e:mul64 (x:Int) (sizes.getD c.toNat 0)=((x*nK sizes c:Nat):Int):=by
   rw [← k1,mul64_sm (by rw [← y0];omega) (by rw [← y0];omega),y0]
  rw [zY,e,width_w hs cols _ hc.2 h1,List.reverse_cons,wN_append];simp only [wN,Nat.mul_one];rw [Nat.mul_assoc,Nat.mul_comm (nK sizes c)]
theorem width_3 {sizes:List Int} (hs:sizes.all zbn=true) {cols:List Int} (hc:cols.all (colOK sizes)=true) (h3:cols.length≤3):zY sizes cols 1=((wN sizes cols.reverse:Nat):Int)∧1≤wN sizes cols.reverse∧wN sizes cols.reverse≤216:=by
 have hp:6 ^ cols.length≤6 ^ 3:=uy (by decide) h3;have e:=width_w hs cols 1 hc (by omega);rw [Nat.one_mul] at e;have:=zeW hs hc h3;refine ⟨e,?_,?_⟩ <;> (rw [show ((1:Nat):Int)=1 from rfl] at e;omega)
def mvT (sizes:List Int) (s:Swap) (strict:Bool):List Table→Int→Int
 | [],_=>-1
 | t::l,c=>if (zaE t.kind==strict&&(decide (t.first≤c)&&decide (c<t.first+zY sizes t.columns 1)))=true then t.first+((digP sizes s t.columns.reverse (c - t.first).toNat:Nat):Int) else mvT sizes s strict l c
theorem tab_ok {sizes:List Int} {t:Table} (h:tabP sizes t=true):t.columns.length≤3∧t.columns.all (colOK sizes)=true:=by
 simp only [tabP,yc,yd] at h;exact h.1.2
theorem lay_first {sizes:List Int} (hs:sizes.all zbn=true):∀ {l:List Table} {seen:List (List UInt8)} {a b:Int},layP sizes seen a b l=true→0≤a→0≤b→a+216*(l.length:Int)≤1000000→b+216*(l.length:Int)≤1000000 →
  ∀ t∈l,0≤t.first∧t.first≤1000000∧(if zaE t.kind=true then a else b)≤t.first
 | [],_,_,_,_,_,_,_,_,t,ht=>by simp at ht
 | x::l,seen,a,b,h,ha,hb,h1,h2,t,ht=>by
  have hw:=width_3 hs (tab_ok (zgS h x (by simp))).2 (tab_ok (zgS h x (by simp))).1;simp only [layP,yc] at h;have h3:=h.2;simp only [yJ] at h1 h2;have hcast:((l.length+1:Nat):Int)=(l.length:Int)+1:=by omega
  rw [hcast] at h1 h2;by_cases hx:zaE x.kind=true
  ·rw [if_pos hx] at h3;simp only [yc,beq_iff_eq] at h3;rw [add64_sm (by omega) (by omega)] at h3;rcases yI.1 ht with rfl | ht
   ·rw [if_pos hx];omega
   ·have:=lay_first hs h3.2 (by omega) hb (by omega) (by omega) t ht;by_cases e2:zaE t.kind=true
    ·rw [if_pos e2] at this ⊢;omega
    ·rw [if_neg e2] at this ⊢;omega
  ·rw [if_neg hx] at h3;simp only [yc,beq_iff_eq] at h3;rw [add64_sm (by omega) (by omega)] at h3;rcases yI.1 ht with rfl | ht
   ·rw [if_neg hx];omega
   ·have:=lay_first hs h3.2 ha (by omega) (by omega) (by omega) t ht;by_cases e2:zaE t.kind=true
    ·rw [if_pos e2] at this ⊢;omega
    ·rw [if_neg e2] at this ⊢;omega
theorem lay_big {m:Model} (hL:zaf m.sorts m.tables=true):m.sorts.all zbn=true∧layP m.sorts [] 0 0 m.tables=true∧m.tables.length≤12:=by
 obtain ⟨-,l2,l3,-⟩:=zag hL;simp only [zaf,yc] at hL;exact ⟨l3,hL.2,l2⟩
def mvS (sizes:List Int) (s:Swap) (strict:Bool):List Table→Int→Int
 | [],_=>-1
 | t::l,c=>if (zaE t.kind==strict&&(decide (0≤sub64 c t.first)&&decide (sub64 c t.first<zY sizes t.columns 1)))=true then t.first+((digP sizes s t.columns.reverse (sub64 c t.first).toNat:Nat):Int) else mvS sizes s strict l c
section
variable {sizes:List Int} {s:Swap} (h:SwapOK sizes s) (hs:sizes.all zbn=true)
include h hs
end
def mvC (m:Model) (s:Swap) (c:Int):Int:=mvT m.sorts s true m.tables c
structure Swp (m:Model) (s:Swap):Prop where
 ok:SwapOK m.sorts s
 lay:zaf m.sorts m.tables=true
theorem list_ext {a b:List Int} (hl:a.length=b.length) (h:∀ i:Nat,i<a.length→a.getD i 0=b.getD i 0):a=b:=by
 refine uK hl λi h1 h2=>?_
 have:=h i h1;simpa [y9,h1,h2] using this
def insT (t:Term):List Term→List Term
 | []=>[t]
 | u::l=>if t.cell<u.cell then t::u::l else u::insT t l
def mvt (m:Model) (s:Swap) (t:Term):Term:=⟨mvC m s t.cell,t.factor⟩
def rowL (m:Model) (s:Swap) (l:List Term) (acc:List Term):List Term:=l.foldl (λacc t=>insT (mvt m s t) acc) acc
def rowM (m:Model) (s:Swap) (r:Row):Row:=⟨rowL m s r.terms [],r.bound⟩
def deltaB (m:Model) (s:Swap) (e f:Effect):Bool:=e.delta.all λd=>f.delta.any λg=>(g.cell==mvC m s d.cell)&&(g.add==d.add)
def holdB (m:Model) (s:Swap) (e f:Effect):Bool:=e.hold.all λr=>decide (e.hold.count r=f.hold.count (rowM m s r))
def updB (m:Model) (s:Swap) (e f:Effect):Bool:=e.updates.all λu=>decide (e.updates.count u=f.updates.count ⟨u.kind,mvS m.sorts s false m.tables u.cell,u.value⟩)
def alikeB (m:Model) (s:Swap) (e f:Effect):Bool:=(decide (e.delta.length=f.delta.length)&&(decide (e.hold.length=f.hold.length)&&decide (e.updates.length=f.updates.length)))&&(deltaB m s e f&&(holdB m s e f&&updB m s e f))
structure EffS (e:Effect):Prop where
 delta:e.delta.length≤1000∧∀ d∈e.delta,-1000000≤d.cell∧d.cell≤1000000
 hold:e.hold.length≤1000∧∀ r∈e.hold,r.terms.length≤500∧∀ t∈r.terms,-1000000≤t.cell∧t.cell≤1000000
 upd:e.updates.length≤1000
def argM (s:Swap) (sorts args:List Int):List Int:=(List.range args.length).map λi:Nat=>if sorts.getD i 0=s.sort then elemP s (args.getD i 0) else args.getD i 0
def actB (m:Model) (s:Swap) (a b:Action):Bool:=(b.operation==a.operation&&decide (b.arguments=argM s (opAt m a).sorts a.arguments))&&alikeB m s a.effect b.effect
structure ActS (m:Model):Prop where
 len:m.actions.length≤1000
 act:∀ a∈m.actions,EffS a.effect∧(∃ o,idx m.operations a.operation=some o∧o.sorts.length=a.arguments.length)∧a.arguments.length≤100
def fstP (p:Nat→Bool):Nat→Nat→Option Nat
 | _,0=>none
 | i,k+1=>if p i=true then some i else fstP p (i+1) k
def conAt (m:Model) (i:Nat):Constraint:=m.constraints.getD i default
def sameC (c d:Constraint):Bool:=((d.kind==c.kind)&&(d.family==c.family))&&decide (d.row=c.row)
def rankP (m:Model) (i:Nat):Nat:=(m.constraints.take i).countP (sameC (conAt m i))
def conB (m:Model) (s:Swap) (i j:Nat):Bool:=((((conAt m j).kind==(conAt m i).kind)&&((conAt m j).family==(conAt m i).family))&&decide ((conAt m j).row=rowM m s (conAt m i).row))&&decide (rankP m j=rankP m i)
structure ConS (m:Model):Prop where
 len:m.constraints.length≤1000
 con:∀ c∈m.constraints,c.row.terms.length≤500∧∀ t∈c.row.terms,-1000000≤t.cell∧t.cell≤1000000
def risT (l:List Term):Prop:=l.Pairwise λa b=>a.cell<b.cell
structure RowIn (m:Model) (r:Row):Prop where
 ris:risT r.terms
 term:∀ t∈r.terms,zeD (boxM m).length t
section
variable {m:Model} {s:Swap} (h:Swp m s)
include h
end
theorem added_none {c:Int}:∀ {l:List Change},(∀ d∈l,d.cell≠c)→zcf l c=0
 | [],_=>rfl
 | d::l,h=>by
  rw [zcf,if_neg (h d (by simp)),added_none λe he=>h e (by simp [he])]
structure EffIn (m:Model) (e:Effect):Prop where
 nd:(e.delta.map (·.cell)).Nodup
 cell:∀ d∈e.delta,0≤d.cell∧d.cell<((boxM m).length:Int)
 hold:∀ r∈e.hold,RowIn m r
section
variable {m:Model} {s:Swap} (h:Swp m s)
include h
end
theorem box_len {m:Model} (hS:SmallM m) (hL:zaf m.sorts m.tables=true):(boxM m).length≤2592:=by
 obtain ⟨l1,l2,l3,l4⟩:=zag hL;have:=zct (sizes:=m.sorts) (s:=true) (l:=m.tables) λt ht=>(l4 t ht).2.2.2.2
 have:=hS.tables;unfold boxM;omega
def rhoI (m:Model) (s:Swap) (a:Action):Int:=ixP (actB m s a) m.actions 0
def sigI (m:Model) (s:Swap) (i:Nat):Nat:=if (conAt m i).kind=1 then i else (fstP (conB m s i) 0 m.constraints.length).getD 0
def symB (m:Model) (s:Swap):Bool:=(m.actions.all λa=>decide (0≤rhoI m s a))&&allR (λi=>decide ((conAt m i).kind=1)||(fstP (conB m s i) 0 m.constraints.length).isSome) 0 m.constraints.length
structure Sym (m:Model) (s:Swap):Prop where
 small:SmallM m
 valid:ValidM m
 swap:SwapOK m.sorts s
 sym:symB m s=true
section
variable {m:Model} {s:Swap} (h:Sym m s)
include h
end
structure TgtMv (m:Model) (s:Swap) (q p:Question) (a A:Action):Prop where
 hold:p.target.hold=q.target.hold
 con:q.target.hold=false→∃ i:Nat,i<m.constraints.length∧q.target.index=(i:Int)∧p.target.index=((sigI m s i:Nat):Int)
 row:q.target.hold=true→∃ r,idx a.effect.hold q.target.index=some r∧idx A.effect.hold p.target.index=some (rowM m s r)
section
variable {m:Model} {s:Swap} {q p:Question} {a b A B:Action} (h:Sym m s)
include h
end
structure QMv (m:Model) (s:Swap) (q p:Question) (a b:Action):Prop where
 out:∃ (k l:Nat) (hk:k<m.actions.length) (hl:l<m.actions.length),actB m s a m.actions[k]=true∧actB m s b m.actions[l]=true∧(q.e=q.f→k=l)∧TgtMv m s q p a m.actions[k] ∧
  (q.target.hold=true→p.e=(k:Int)∧p.f=(l:Int))∧(q.target.hold=false→p.e≤p.f∧((p.e=(k:Int)∧p.f=(l:Int))∨(p.e=(l:Int)∧p.f=(k:Int))))

def wideS (x:List Int):Prop:=∀ v∈x,-9223372036854775808≤v∧v≤9223372036854775807
theorem parts64 {x:Int} (h1 : -9223372036854775808≤x) (h2:x≤9223372036854775807):(-2147483648≤x.tdiv 4294967296∧x.tdiv 4294967296≤2147483648)∧(-4294967296≤x.tmod 4294967296∧x.tmod 4294967296≤4294967296)∧x=x.tdiv 4294967296*4294967296+x.tmod 4294967296:=by
 rcases Int.le_total 0 x with h | h
 ·rw [Int.tdiv_eq_ediv_of_nonneg h,Int.tmod_eq_emod_of_nonneg h];omega
 ·obtain ⟨y,rfl⟩:∃ y,x = -y:=⟨-x,by omega⟩
  rw [Int.neg_tdiv,Int.neg_tmod,Int.tdiv_eq_ediv_of_nonneg (by omega),Int.tmod_eq_emod_of_nonneg (by omega)];omega
theorem ref12_smallW {n:Nat} {r:Row} {s:List Int} (ht:∀ t∈r.terms,zeD s.length t) (hl:r.terms.length≤1000) (hs:wideS s) (hb : -4000000000≤r.bound∧r.bound≤4000000000) (hn:1000000≤n):zca n r s=some (decide (sumP s r.terms≤r.bound)):=by
 have:=zbE (body:=zca.l1 n r s) (len:=r.terms.length) (st:=λ(p:Int×Int) i=>(p.1,p.2,(i:Int))) (g:=λ_ _=>some (decide (sumP s r.terms≤r.bound))) (λi p=>p.1*4294967296+p.2+sumP s (r.terms.drop i)=sumP s r.terms∧(-(2147483648000*i:Int)≤p.1∧p.1≤2147483648000*i)∧(-(4294967296000*i:Int)≤p.2∧p.2≤4294967296000*i)) (λrec i p hi hI hr=>?_) (λrec p hI=>?_) n 0 (0,0) (yp _) (by omega) ⟨by simp,by simp,by simp⟩
 ·simpa [zca] using this
 ·obtain ⟨a,b⟩:=p
  obtain ⟨h1,h2,h3⟩:=hI
  simp only [] at h1 h2 h3
  obtain ⟨t1,t2,t3,t4⟩:=ht _ (yk hi)
  have hx:=hs _ (getD_mem t1 t2)
  rw [zn hi,sumP] at h1
  generalize hxv:s.getD r.terms[i].cell.toNat 0=x at *
  have hidx:idx s r.terms[i].cell=some x:=by rw [zeM t1 t2,hxv]
  have hq:quo64 x 4294967296=some (x.tdiv 4294967296):=by
   unfold quo64
   rw [if_neg (by decide)]
   have:=(parts64 hx.1 hx.2).1
   rw [zaj (by omega) (by omega)]
  have hr4:rem64 x 4294967296=some (x.tmod 4294967296):=by unfold rem64;rw [if_neg (by decide)]
  obtain ⟨hqb,hrb,hqr⟩:=parts64 hx.1 hx.2
  generalize x.tdiv 4294967296=q at *
  generalize x.tmod 4294967296=m at *
  have m1:=mul_bd t3 t4 hqb.1 hqb.2
  have m2:=mul_bd t3 t4 hrb.1 hrb.2
  have hmul:r.terms[i].factor*x=r.terms[i].factor*q*4294967296+r.terms[i].factor*m:=by
   rw [hqr,Int.mul_add,Int.mul_assoc]
  rw [hmul] at h1
  have e1:mul64 r.terms[i].factor q=r.terms[i].factor*q:=by unfold mul64;exact zaj (by omega) (by omega)
  have e2:mul64 r.terms[i].factor m=r.terms[i].factor*m:=by unfold mul64;exact zaj (by omega) (by omega)
  have hlen:(i:Int)≤1000:=by omega
  have e3:add64 a (r.terms[i].factor*q)=a+r.terms[i].factor*q:=by unfold add64;exact zaj (by omega) (by omega)
  have e4:add64 b (r.terms[i].factor*m)=b+r.terms[i].factor*m:=by unfold add64;exact zaj (by omega) (by omega)
  simp only [zca.l1,zo hi,if_true,za hi,ya,hidx,hq,hr4,e1,e2,e3,e4,zc (i:=i) (by omega)]
  exact hr (a+r.terms[i].factor*q,b+r.terms[i].factor*m) ⟨by simp only [];omega,by simp only [];omega,by simp only [];omega⟩
 ·obtain ⟨a,b⟩:=p
  obtain ⟨h1,h2,h3⟩:=hI
  simp only [List.drop_length,sumP,Int.add_zero] at h1 h2 h3
  have hlen:(r.terms.length:Int)≤1000:=by omega
  have s1:shrO .i64 b 32=some (b / 4294967296):=by
   unfold shrO
   rw [if_neg (by decide),Int.fdiv_eq_ediv_of_nonneg _ (by decide)]
   rfl
  have s2:shrO .i64 r.bound 32=some (r.bound / 4294967296):=by
   unfold shrO
   rw [if_neg (by decide),Int.fdiv_eq_ediv_of_nonneg _ (by decide)]
   rfl
  have e3:add64 a (b / 4294967296)=a+b / 4294967296:=by unfold add64;exact zaj (by omega) (by omega)
  simp only [zca.l1,zap,ye,if_false,s1,s2,ya,e3,band_low (x:=b) (by omega) (by omega),band_low (x:=r.bound) (by omega) (by omega),yh]
  rw [Bool.eq_iff_iff]
  simp only [yz,yc,yd,beq_iff_eq]
  omega
theorem zhK {n c s} (hC:ConIn c s.length) (hs:wideS s) (hl:s.length≤1000) (hn:4294967296≤n):zaR n c s=some (zae c s):=by
 unfold zaR zhC zae
 cases hC with
 | row hk ht htl hb=>
  have hin:zau n c (s.length:Int)=some true:=by
   unfold zau
   rw [if_neg (by simp [hk])]
   have:=zD (body:=zau.l1 n c (s.length:Int)) (len:=c.row.terms.length) (st:=λi=>(i:Int)) (g:=λ_=>some true) (λrec i hi hr=>?_) (λrec=>?_) n 0 (yp _) (by omega)
   ·simpa using this
   ·obtain ⟨t1,t2,-⟩:=ht _ (yk hi)
    have h1:decide (c.row.terms[i].cell<0)=false:=by simp;omega
    have h2:decide ((s.length:Int)≤c.row.terms[i].cell)=false:=by simp;omega
    simp only [zau.l1,zo hi,if_true,za hi,ya,yj,yy,grd,yf,h1,h2,Bool.or_self,ye,if_false,zc (i:=i) (by omega),hr]
   ·simp [zau.l1,hk]
  have hk1:¬ c.kind=1:=by omega
  rw [hin,ya,if_neg (by simp),if_neg (by simp [hk]),ref12_smallW ht htl hs hb (by omega),if_neg hk1]
  rfl
 | graph size hk hsz h1 h6 h0 hf=>
  have hG:GraphIn c s size:=⟨hsz,h1,h6,h0,hf,hl⟩
  obtain ⟨l,hc1,hc2⟩:=Cycle_eq hk hG hn
  have hin:zau n c (s.length:Int)=some true:=by
   have hsq:((size*size:Nat):Int)=(size:Int)*(size:Int):=y0 _ _
   have:size*size≤6*6:=yN h6 h6
   unfold zau
   have e1:mul64 c.size c.size=((size*size:Nat):Int):=by unfold mul64;rw [hsz,← hsq];exact zaj (by omega) (by omega)
   have e2:sub64 (s.length:Int) ((size*size:Nat):Int)=(s.length:Int) - ((size*size:Nat):Int):=by unfold sub64;exact zaj (by omega) (by omega)
   rw [if_pos (by simp [hk]),e1,e2,hsz]
   simp only [yh,yc,yd]
   omega
  rw [hin,ya,if_neg (by simp),if_pos (by simp [hk]),hc1,if_pos hk,hsz]
  simp only [ya,hc2,yq]
section
variable {m:Model} (hS:SmallM m) (hV:ValidM m)
include hS hV
theorem box_30:(boxM m).length≤30:=by
 have hc:=hV.cons
 have:=hS.constraints
 simp only [consP,yc,yd] at hc
 unfold boxM
 omega
end
def midS (s:List Int):Prop:=∀ v∈s,-1200000000000≤v∧v≤1200000000000
theorem midS.wide {s} (h:midS s):wideS s:=λv hv=>by have:=h v hv;omega
theorem sumP_mid {x:List Int} (hx:midS x):∀ {l:List Term},(∀ t∈l,zeD x.length t)→-(1200000000000000*(l.length:Int))≤sumP x l∧sumP x l≤1200000000000000*(l.length:Int)
 | [],_=>by simp [sumP]
 | t::l,h=>by
  obtain ⟨t1,t2,t3,t4⟩:=h t (by simp)
  have:=hx _ (getD_mem t1 t2)
  have m1:=mul_bd t3 t4 this.1 this.2
  have ih:=sumP_mid hx (l:=l) λu hu=>h u (by simp [hu])
  simp only [sumP,yJ]
  omega
theorem sSum_eq {n:Nat} {r:Row} {x:List Int} (hx:midS x) (ht:∀ t∈r.terms,zeD x.length t) (hl:r.terms.length≤1000) (hn:1000000≤n):zaL n r x=some (sumP x r.terms):=by
 have:=zbE (body:=zaL.l1 n r x) (len:=r.terms.length) (st:=λ(a:Int) i=>(a,(i:Int))) (g:=λi a=>some (a+sumP x (r.terms.drop i))) (λi a=>-(1200000000000000*(i:Int))≤a∧a≤1200000000000000*(i:Int)) (λrec i a hi hI hr=>?_) (λrec a hI=>?_) n 0 0 (yp _) (by omega) (by simp)
 ·simpa [zaL] using this
 ·obtain ⟨t1,t2,t3,t4⟩:=ht _ (yk hi)
  have hv:=hx _ (getD_mem t1 t2)
  have m1:=mul_bd t3 t4 hv.1 hv.2
  rw [zn hi,sumP]
  have hidx:=zeM t1 t2
  generalize x.getD r.terms[i].cell.toNat 0=v at *
  have e1:mul64 r.terms[i].factor v=r.terms[i].factor*v:=by unfold mul64;exact zaj (by omega) (by omega)
  have e2:add64 a (r.terms[i].factor*v)=a+r.terms[i].factor*v:=by unfold add64;exact zaj (by omega) (by omega)
  simp only [zaL.l1,zo hi,if_true,za hi,ya,hidx,e1,e2,zc (i:=i) (by omega)]
  rw [hr _ (by omega)]
  congr 1
  omega
 ·simp only [zaL.l1,zap,ye,if_false,List.drop_length,sumP,Int.add_zero]
def zch (c:Constraint) (s:List Int) (N:Nat):List Bool:=(List.range N).map λ(k:Nat)=>decide (1≤s.getD (c.first+(k:Int)).toNat 0)
theorem zcj (c s N):(zch c s N).length=N:=by simp [zch]
def cyc1 (c:Constraint) (s:List Int):List Int:=(cycP (hasP ⟨c.size,zch c s (c.size.toNat*c.size.toNat)⟩) c.size.toNat).headD []
theorem mkl_b {b k:Nat} (h:k*b≤140737488355328):mkl b (k:Int) (false:Bool)=some (List.replicate k false):=by
 unfold mkl
 rw [if_pos (by simp;omega)]
 simp
theorem dCycle_eq {n:Nat} {edges:List Bool} {K:Nat} (h1:1≤K) (h6:K≤6) (hl:edges.length=K*K) (hn:1000000≤n):zd6 n (K:Int) edges=some ((cycP (hasP ⟨(K:Int),edges⟩) K).headD []):=by
 unfold zd6
 rw [zix h1 h6 hl hn,ya]
 cases cycP (hasP ⟨(K:Int),edges⟩) K with
 | nil=>rfl
 | cons x l=>
  rw [if_neg (by simp;omega)]
  rfl
theorem sCycle_eq {n:Nat} {c:Constraint} {s:List Int} {size:Nat} (hG:GraphIn c s size) (hn:1000000≤n):zaM n c s=some (cyc1 c s):=by
 have hs:=hG.sz
 have h6:=hG.six
 have h1:=hG.pos
 have h0:=hG.first
 have hf:=hG.fits
 have hlen:=hG.len
 have h4:size*size≤36:=yN h6 h6
 have e:mul64 c.size c.size=((size*size:Nat):Int):=by
  rw [hs];unfold mul64
  rw [zaj (by rw [← y0];omega) (by rw [← y0];omega)];simp
 have hst:c.size.toNat=size:=by omega
 unfold zaM cyc1
 rw [e,mkl_b (by omega),ya,hst]
 have:=zD (body:=zaM.l1 n c s (List.replicate (size*size) false)) (len:=size*size) (st:=λi=>((zch c s (size*size)).take i++List.replicate (size*size - i) false,(i:Int))) (g:=λ_=>some ((cycP (hasP ⟨c.size,zch c s (size*size)⟩) size).headD [])) (λrec i hi hr=>?_) (λrec=>?_) n 0 (yp _) (by omega)
 ·simpa using this
 ·have hle:i<(zch c s (size*size)).length:=by rw [zcj];exact hi
  have hlt:decide ((i:Int)<((List.replicate (size*size) false).length:Int))=true:=by simp;omega
  have ha:add64 c.first (i:Int)=c.first+(i:Int):=by unfold add64;exact zaj (by omega) (by omega)
  have hx:=zeM (s:=s) (c:=c.first+(i:Int)) (by omega) (by omega)
  have hbl:i<((zch c s (size*size)).take i++List.replicate (size*size - i) false).length:=by simp [zcj];omega
  simp only [zaM.l1,hlt,if_true,ha,hx,ya]
  rw [za hbl,ya,sto_at hbl,ya,zc (by omega),← hr]
  congr 2
  rw [yr hle,yB]
  have e2:size*size - i=(size*size - (i+1))+1:=by omega
  rw [e2,List.replicate_succ,List.set_append_right _ _ (by simp [zcj];omega)]
  have e3:i - ((zch c s (size*size)).take i).length=0:=by simp [zcj];omega
  rw [e3,List.set_cons_zero]
  congr 1
  simp [zch]
 ·have hge:decide (((size*size:Nat):Int)<((List.replicate (size*size) false).length:Int))=false:=by simp
  simp only [zaM.l1,hge,ye,if_false,uI,List.replicate_zero,ur]
  rw [List.take_of_length_le (by rw [zcj];exact yn _),hs,dCycle_eq h1 h6 (zcj _ _ _) hn]
  rfl
theorem hasP_edges {c:Constraint} {s:List Int} {size a b:Nat} (hs:c.size=(size:Int)) (ha:a<size) (hb:b<size):hasP ⟨c.size,zch c s (size*size)⟩ a b=edgeP s c a b:=by
 have hp:=pair_lt ha hb
 unfold hasP edgeP
 simp only
 have hst:c.size.toNat=size:=by omega
 have e:c.first+(a:Int)*c.size+(b:Int)=c.first+((a*size+b:Nat):Int):=by rw [hs,Int.natCast_add,y0];omega
 rw [hst,e]
 simp [zch,y9,hp]
theorem cyc1_nil {c:Constraint} {s:List Int} {size:Nat} (hG:GraphIn c s size):((cyc1 c s).length==0)=acycE (edgeP s c) size:=by
 have hs:=hG.sz
 have hst:c.size.toNat=size:=by omega
 unfold cyc1
 rw [hst]
 have hE:acycE (hasP ⟨c.size,zch c s (size*size)⟩) size=acycE (edgeP s c) size:=by
  rw [Bool.eq_iff_iff]
  exact ⟨acycE_mono λa b ha hb h=>by rw [hasP_edges hs ha hb];exact h,acycE_mono λa b ha hb h=>by rw [← hasP_edges hs ha hb];exact h⟩
 rw [← hE]
 cases hc:cycP (hasP ⟨c.size,zch c s (size*size)⟩) size with
 | nil=>
  have:acycE (hasP ⟨c.size,zch c s (size*size)⟩) size=true:=acycE_iff.2 λx hx=>by rw [hc] at hx;cases hx
  rw [this];rfl
 | cons x l=>
  have hx:x∈cycP (hasP ⟨c.size,zch c s (size*size)⟩) size:=by rw [hc];simp
  have h1:acycE (hasP ⟨c.size,zch c s (size*size)⟩) size=false:=by
   rw [← yH]
   intro h
   exact acycE_iff.1 h x hx
  rw [h1]
  have:=(cycP_path hx).pos
  simp only [List.headD_cons,ub]
  omega
theorem sHolds_eq {n c s} (hC:ConIn c s.length) (hs:midS s) (hl:s.length≤1000) (hn:1000000≤n):zbg n c s=some (zae c s):=by
 unfold zbg
 cases hC with
 | row hk ht htl hb=>
  rw [if_pos (by simp [hk]),sSum_eq hs ht htl hn,ya,holds_row hk]
 | graph size hk hsz h1 h6 h0 hf=>
  have hG:GraphIn c s size:=⟨hsz,h1,h6,h0,hf,hl⟩
  have hst:c.size.toNat=size:=by omega
  rw [if_neg (by simp [hk]),sCycle_eq hG hn,ya]
  unfold zae
  rw [if_pos hk,hst,← cyc1_nil hG]
  congr 1
  rw [Bool.eq_iff_iff]
  simp
def brkP (m:Model) (s:List Int):List Int:=zdd (λi=>!zae ((idx m.constraints i).getD default) s) 0 m.constraints.length
theorem raisedP_sn (p:Int→Bool):∀ (k i:Nat),zdd p i (k+1)=zdd p i k++(if p ((i+k:Nat):Int)=true then [((i+k:Nat):Int)] else [])
 | 0,i=>by
  simp only [zdd,uu,yV]
 | k+1,i=>by
  rw [zdd,raisedP_sn p k (i+1)]
  conv=>rhs;rw [zdd]
  rw [show i+1+k=i+(k+1) by omega]
  split <;> simp
theorem brk_loop {n m s} {body:(List Int×Int→Option (List Int))→List Int×Int→Option (List Int)} (hl:m.constraints.length≤1000)
  (hb:∀ rec (out:List Int) (i:Nat) (hi:i<m.constraints.length),out.length≤1000→body rec (out,(i:Int))=if zae m.constraints[i] s=true then rec (out,((i+1:Nat):Int)) else rec (out++[(i:Int)],((i+1:Nat):Int)))
  (he:∀ rec out,body rec (out,(m.constraints.length:Int))=some out) (hn:1000000≤n):loopF body n ([],0)=some (brkP m s):=by
 have:=zD (body:=body) (len:=m.constraints.length) (st:=λi=>(zdd (λi=>!zae ((idx m.constraints i).getD default) s) 0 i,(i:Int))) (g:=λ_=>some (brkP m s)) (λrec i hi hr=>?_) (λrec=>?_) n 0 (yp _) (by omega)
 ·exact this
 ·rw [hb rec _ i hi (by have:=zhA (λi=>!zae ((idx m.constraints i).getD default) s) i 0;omega),← hr,raisedP_sn,uq,za hi,yf]
  cases zae m.constraints[i] s <;> simp
 ·exact he rec _
theorem brk_nil {m s}:((brkP m s).length==0)=m.constraints.all λc=>zae c s:=by
 unfold brkP
 have key:∀ (k i:Nat) (p:Int→Bool),((zdd p i k).length==0)=true↔∀ j,i≤j→j<i+k→p (j:Int)=false:=by
  intro k
  induction k with
  | zero=>intro i p;simp [zdd];omega
  | succ k ih=>
   intro i p
   rw [zdd]
   by_cases hp:p (i:Int)=true
   ·rw [if_pos hp]
    simp only [yJ,beq_iff_eq]
    constructor
    ·intro h;omega
    ·intro h
     have:=h i (yn _) (by omega)
     rw [hp] at this;cases this
   ·rw [if_neg hp,ih]
    constructor
    ·intro h j h1 h2
     by_cases e:j=i
     ·subst e;simpa using hp
     ·exact h j (by omega) (by omega)
    ·intro h j h1 h2
     exact h j (by omega) (by omega)
 rw [Bool.eq_iff_iff,key,yo]
 constructor
 ·intro h c hc
  obtain ⟨i,hi,rfl⟩:=List.getElem_of_mem hc
  have:=h i (yp _) (by omega)
  rw [za hi] at this
  simpa using this
 ·intro h j _ hj
  have hj:j<m.constraints.length:=by omega
  rw [za hj]
  simpa using h _ (yk hj)
theorem sBroken_eq {n m s} (hC:∀ c∈m.constraints,ConIn c s.length) (hs:midS s) (hl:s.length≤1000) (hcl:m.constraints.length≤1000) (hn:1000000≤n):zaD n m s=some (brkP m s):=by
 unfold zaD
 refine brk_loop hcl (λrec out i hi ho=>?_) (λrec out=>?_) hn
 ·simp only [zaD.l1,zo hi,if_true,za hi,jn,ya,sHolds_eq (hC _ (yk hi)) hs hl hn,zc (i:=i) (by omega)]
  cases zae m.constraints[i] s with
  | true=>simp
  | false=>
   simp only [ux,if_true,ye,if_false]
   rw [zW (by simp;omega),ya]
 ·simp only [zaD.l1,zap,ye,if_false]
theorem added_snoc {d:Change} {c:Int}:∀ {l:List Change},(∀ e∈l,e.cell≠d.cell)→zcf (l++[d]) c=if d.cell=c then d.add else zcf l c
 | [],_=>by simp [zcf]
 | e::l,h=>by
  have ih:=added_snoc (d:=d) (c:=c) (l:=l) λx hx=>h x (by simp [hx])
  have he:=h e (by simp)
  rw [y7,zcf,zcf,ih]
  by_cases h1:e.cell=c
  ·rw [if_pos h1,if_pos h1,if_neg (by omega)]
  ·rw [if_neg h1,if_neg h1]
structure ActD (K:Nat) (d:List Change):Prop where
 small:smallD d
 cell:∀ e∈d,0≤e.cell∧e.cell<(K:Int)
 nd:(d.map (·.cell)).Nodup
 len:d.length≤1000
theorem actD_of {m} (hS:SmallM m) (hV:ValidM m) {a} (ha:a∈m.actions):ActD (boxM m).length a.effect.delta:=by
 have h:=(valid_act hV ha).1
 simp only [effP,yc,yo] at h
 obtain ⟨p1,p2⟩:=zfw _ _ h.1
 obtain ⟨-,h1,-⟩:=hS.act a ha
 exact ⟨λx hx=>by have:=p1 x hx;omega,λe he=>by have:=p1 e he;unfold boxM;omega,p2,by omega⟩
def lowS (s:List Int):Prop:=∀ v∈s,-1099511627776≤v∧v≤1099511627776
theorem lowS.mid {s} (h:lowS s):midS s:=λv hv=>by have:=h v hv;omega
theorem lowS.plus {s d} (h:lowS s) (hd:smallD d):midS (plusP s d):=λv hv=>by
 have:=ziL (B:=1099511627776) h hd v hv
 omega
theorem lowS.plus2 {s d e} (h:lowS s) (hd:smallD d) (he:smallD e):midS (plusP (plusP s d) e):=λv hv=>by
 have:=ziL (B:=1100511627776) (λx hx=>by have:=ziL (B:=1099511627776) h hd x hx;omega) he v hv
 omega
theorem plus_nil (x:List Int):plusP x []=x:=by
 refine list_ext (by rw [zaN]) λi hi=>?_
 rw [zaN] at hi
 have:=plus_get (s:=x) (d:=[]) (c:=(i:Int)) (by omega) (by omega)
 rw [yq] at this
 rw [this];simp [zcf]
theorem sBehind_in {n:Nat} {x16:Int} {rec50:List Int×Int→Option (List Int)} {a:Action} {x:List Int} (hx:midS x) (hl:x.length≤1000) (hd:ActD x.length a.effect.delta) (hn:1000000≤n):loopF (zm.l2 n x16 rec50 a) n (x,0)=rec50 (plusP x a.effect.delta,add64 x16 1):=by
 have hdl:=hd.len
 have:=zD (body:=zm.l2 n x16 rec50 a) (len:=a.effect.delta.length) (st:=λi=>(plusP x (a.effect.delta.take i),(i:Int))) (g:=λ_=>rec50 (plusP x a.effect.delta,add64 x16 1)) (λrec i hi hr2=>?_) (λrec=>?_) n 0 (yp _) (by omega)
 ·rw [List.take_zero,plus_nil] at this;exact this
 ·obtain ⟨c0,c1⟩:=hd.cell _ (yk hi)
  obtain ⟨c,hcc⟩:=yQ c0
  have hcx:c<x.length:=by omega
  have hne:∀ e∈a.effect.delta.take i,e.cell≠a.effect.delta[i].cell:=λe he hee=>by
   obtain ⟨j,hj,rfl⟩:=List.getElem_of_mem he
   rw [yR] at hj
   have hji:j<i:=by omega
   have hnd:=hd.nd
   rw [List.nodup_iff_pairwise_ne,List.pairwise_iff_getElem] at hnd
   have:=hnd j i (by simp;omega) (by simp;omega) hji
   simp only [List.getElem_map] at this
   simp only [List.getElem_take] at hee
   exact this hee
  have hpl:(plusP x (a.effect.delta.take i)).length=x.length:=zaN _ _
  have hz:zcf (a.effect.delta.take i) (c:Int)=0:=added_none λe he=>by have:=hne e he;omega
  have hg:=plus_get (s:=x) (d:=a.effect.delta.take i) (c:=(c:Int)) (by omega) (by omega)
  rw [yq,hz,Int.add_zero] at hg
  have hgi:idx (plusP x (a.effect.delta.take i)) (c:Int)=some (x.getD c 0):=by
   rw [zeM (by omega) (by omega),yq,hg]
  have hv:=hx _ (getD_mem (s:=x) (c:=(c:Int)) (by omega) (by omega))
  rw [yq] at hv
  have hda:=hd.small _ (yk hi)
  have hadd:add64 (x.getD c 0) a.effect.delta[i].add=x.getD c 0+a.effect.delta[i].add:=by unfold add64;exact zaj (by omega) (by omega)
  simp only [zm.l2,zo hi,if_true,za hi,ya,hcc,hgi]
  rw [hadd,sto_at (by omega),ya,zc (by omega),← hr2]
  congr 2
  refine list_ext (by rw [List.length_set,zaN,zaN]) λj hj=>?_
  rw [List.length_set,zaN] at hj
  have hg2:=plus_get (s:=x) (d:=a.effect.delta.take (i+1)) (c:=(j:Int)) (by omega) (by omega)
  have hg3:=plus_get (s:=x) (d:=a.effect.delta.take i) (c:=(j:Int)) (by omega) (by omega)
  rw [yq] at hg2 hg3
  rw [hg2,yr hi,added_snoc hne,hcc]
  by_cases e:c=j
  ·subst e
   rw [if_pos rfl]
   simp [y9,hpl,hcx]
  ·rw [if_neg (by omega),← hg3]
   simp [y9,List.getElem?_set,e]
 ·simp only [zm.l2,zap,ye,if_false,List.take_length]
theorem zgC {n f:Nat} {m:Model} {acts:List Int} {i:Nat} {k:Int} {a:Action} {x:List Int} (hi:i<acts.length) (hk:acts[i]=k) (ha:idx m.actions k=some a) (hil:i<1000) (hx:midS x) (hl:x.length≤1000) (hd:ActD x.length a.effect.delta) (hn:1000000≤n) :
  loopF (zm.l1 n m acts) (f+1) (x,(i:Int))=loopF (zm.l1 n m acts) f (plusP x a.effect.delta,((i+1:Nat):Int)):=by
 conv=>lhs;rw [loopF]
 simp only [zm.l1,zo hi,if_true,za hi,hk,ya,ha]
 rw [sBehind_in hx hl hd hn,zc (by omega)]
theorem sBehind_end {n f:Nat} {m:Model} {acts:List Int} {x:List Int}:loopF (zm.l1 n m acts) (f+1) (x,(acts.length:Int))=some x:=by
 rw [loopF]
 simp only [zm.l1,zap,ye,if_false]
theorem sBehind_1 {n:Nat} {m:Model} {i:Int} {a:Action} {x:List Int} (ha:idx m.actions i=some a) (hx:midS x) (hl:x.length≤1000) (hd:ActD x.length a.effect.delta) (hn:1000000≤n):zm n m x [i]=some (plusP x a.effect.delta):=by
 unfold zm
 rw [zW (by simp;omega),ya,yV]
 obtain ⟨f,hf⟩:∃ f,n=f+1+1:=⟨n - 2,by omega⟩
 have h1:=zgC (n:=n) (f:=f+1) (m:=m) (acts:=[i]) (i:=0) (by simp) rfl ha (by omega) hx hl hd hn
 have h2:=sBehind_end (n:=n) (f:=f) (m:=m) (acts:=[i]) (x:=plusP x a.effect.delta)
 have e:loopF (zm.l1 n m [i]) n (x,0)=loopF (zm.l1 n m [i]) (f+1+1) (x,((0:Nat):Int)):=by rw [← hf];rfl
 rw [e,h1];exact h2
theorem sBehind_2 {n:Nat} {m:Model} {i j:Int} {a b:Action} {x:List Int} (ha:idx m.actions i=some a) (hb:idx m.actions j=some b) (hx:midS x) (hx2:midS (plusP x a.effect.delta)) (hl:x.length≤1000) (hd:ActD x.length a.effect.delta) (hd2:ActD x.length b.effect.delta) (hn:1000000≤n):zm n m x [i,j]=some (plusP (plusP x a.effect.delta) b.effect.delta):=by
 unfold zm
 rw [zW (by simp;omega),ya,yV]
 obtain ⟨f,hf⟩:∃ f,n=f+1+1+1:=⟨n - 3,by omega⟩
 have h1:=zgC (n:=n) (f:=f+1+1) (m:=m) (acts:=[i,j]) (i:=0) (by simp) rfl ha (by omega) hx hl hd hn
 have h2:=zgC (n:=n) (f:=f+1) (m:=m) (acts:=[i,j]) (i:=1) (by simp) rfl hb (by omega) hx2 (by rw [zaN];exact hl) (by rw [zaN];exact hd2) hn
 have h3:=sBehind_end (n:=n) (f:=f) (m:=m) (acts:=[i,j]) (x:=plusP (plusP x a.effect.delta) b.effect.delta)
 have e:loopF (zm.l1 n m [i,j]) n (x,0)=loopF (zm.l1 n m [i,j]) (f+1+1+1) (x,((0:Nat):Int)):=by rw [← hf];rfl
 rw [e,h1,h2];exact h3
theorem PlusM_eq {n e s} (h1:e.delta.length<4611686018427387904) (h2:e.delta.length<n) (ha:∀ k,addP k e.delta 0=zcf e.delta k) (hd:smallD e.delta) (hs:midS s) (hl:s.length≤1000) (hn:1000000≤n):zaU n s e=some (plusP s e.delta):=by
 unfold zaU
 have:=zD (body:=zaU.l1 n s e) (len:=s.length) (st:=λi=>((plusP s e.delta).take i,(i:Int))) (g:=λ_=>some (plusP s e.delta)) (λrec i hi hr=>?_) (λrec=>?_) n 0 (yp _) (by omega)
 ·simpa using this
 ·have hip:i<(plusP s e.delta).length:=by rw [zaN];exact hi
  rw [yr hip] at hr
  have hel:(plusP s e.delta)[i]=s[i]+zcf e.delta (i:Int):=by simp [plusP,List.getD,hi]
  have hb:=hs _ (yk hi)
  have hd':=added_small hd (i:Int)
  have hadd:add64 s[i] (zcf e.delta (i:Int))=s[i]+zcf e.delta (i:Int):=by unfold add64;exact zaj (by omega) (by omega)
  simp only [zaU.l1,zo hi,if_true,za hi,ya,ref22_Add_eq _ h1 h2,ha,hadd,zc (i:=i) (by omega)]
  rw [zW (by simp;omega),ya,← hel]
  exact hr
 ·simp only [zaU.l1,zap,ye,if_false]
  rw [List.take_of_length_le (by rw [zaN];exact yn _)]
structure SceneM (n:Nat) (m:Model) (q:Question) (a b:Action) (s:List Int):Prop where
 small:SmallM m
 valid:ValidM m
 quest:zes m q=true
 ha:idx m.actions q.e=some a
 hb:idx m.actions q.f=some b
 len:s.length=(boxM m).length
 low:lowS s
 fuel:4294967296≤n
section
variable {n:Nat} {m:Model} {q:Question} {rows:List Int} {a b:Action} {s:List Int}
theorem SceneM.box (h:SceneM n m q a b s):(boxM m).length≤30:=box_30 h.small h.valid
theorem SceneM.dA (h:SceneM n m q a b s):ActD s.length a.effect.delta:=by rw [h.len];exact actD_of h.small h.valid (zav h.ha)
theorem SceneM.dB (h:SceneM n m q a b s):ActD s.length b.effect.delta:=by rw [h.len];exact actD_of h.small h.valid (zav h.hb)
theorem SceneM.con (h:SceneM n m q a b s) {x:List Int} (hx:x.length=s.length) {c} (hc:c∈m.constraints):ConIn c x.length:=by
 rw [hx,h.len];exact con_in h.small h.valid hc
theorem all_and {α:Type} {f g:α→Bool}:∀ (l:List α),l.all (λc=>f c&&g c)=(l.all f&&l.all g)
 | []=>rfl
 | x::l=>by
  rw [um,um,um,all_and l]
  cases f x <;> cases g x <;> cases l.all f <;> rfl
theorem possP_eq (m:Model) (e:Effect) (s:List Int):possP m e s=(((m.constraints.all λc=>zae c s)&&(m.constraints.all λc=>zae c (plusP s e.delta)))&&e.hold.all λr=>zae ⟨0,0,r,0,0⟩ s):=by
 unfold possP
 rw [all_and]
theorem ziA (h:SceneM n m q a b s) {x:Action} (hx:x∈m.actions) {r:Row} (hr:r∈x.effect.hold):(∀ t∈r.terms,zeD s.length t)∧r.terms.length≤1000∧ConIn ⟨0,0,r,0,0⟩ s.length:=by
 have h1:=(act_delta h.valid hx).2 r hr
 obtain ⟨-,-,-,-,h4⟩:=h.small.act x hx
 have h5:=h4 r hr
 have h6:=row_in h1 (by omega)
 rw [← h.len] at h6
 have h7:=h1
 simp only [rowOK,yc] at h7
 rw [h.len]
 exact ⟨zfl h7.1 (by decide),by omega,by rw [← h.len];exact h6⟩
theorem sPoss_eq (h:SceneM n m q a b s) {i:Int} {x:Action} (hx:idx m.actions i=some x):zM n m i s=some ((x.effect.hold.all λr=>zae ⟨0,0,r,0,0⟩ s)&&(m.constraints.all λc=>zae c (plusP s x.effect.delta))):=by
 have hn:=h.fuel
 have hb:=h.box
 have hsl:=h.len
 have hxm:=zav hx
 have hcl:=h.small.constraints
 obtain ⟨a1,a2,a3,a4,a5⟩:=h.small.act x hxm
 have hd:ActD s.length x.effect.delta:=by rw [h.len];exact actD_of h.small h.valid hxm
 unfold zM
 rw [hx,ya]
 have:=zay (body:=zM.l1 n m i s x) (l:=x.effect.hold) (n:=n) (st:=λi=>(i:Int)) (λr=>zae ⟨0,0,r,0,0⟩ s) (some false) (some (m.constraints.all λc=>zae c (plusP s x.effect.delta))) (λrec k hk=>?_) (λrec=>?_) (by omega)
 ·rw [show ((0:Nat):Int)=0 from rfl] at this
  rw [this]
  cases (x.effect.hold.all λr=>zae ⟨0,0,r,0,0⟩ s) <;> rfl
 ·obtain ⟨r1,r2,-⟩:=ziA h hxm (yk hk)
  have hh:zae ⟨0,0,x.effect.hold[k],0,0⟩ s=decide (sumP s x.effect.hold[k].terms≤x.effect.hold[k].bound):=holds_row (c:=⟨0,0,x.effect.hold[k],0,0⟩) rfl s
  simp only [zM.l1,zo hk,if_true,za hk,ya,sSum_eq h.low.mid r1 r2 (show 1000000≤n by omega),zc (i:=k) (by omega),hh]
  by_cases e:x.effect.hold[k].bound<sumP s x.effect.hold[k].terms
  ·rw [if_pos (by simpa using e),if_neg (by simp;omega)]
  ·rw [if_neg (by simpa using e),if_pos (by simp;omega)]
 ·simp only [zM.l1,zap,ye,if_false]
  rw [sBehind_1 hx h.low.mid (by omega) hd (by omega),ya,sBroken_eq (λc hc=>h.con (by rw [zaN]) hc) (h.low.plus hd.small) (by rw [zaN];omega) (by omega) (by omega),ya,← brk_nil]
  congr 1
  rw [Bool.eq_iff_iff]
  simp
theorem bad_ex (h:(rows.all λx=>!badR m x)=false):∃ (k:Nat) (hk:k<rows.length),badR m rows[k]=true∧∀ (j:Nat) (hj:j<k),badR m rows[j]=false:=by
 induction rows with
 | nil=>cases h
 | cons x l ih=>
  rw [um] at h
  by_cases hx:badR m x=true
  ·exact ⟨0,by simp,hx,λj hj=>by omega⟩
  ·simp only [yH] at hx
   rw [hx,ux,yE] at h
   obtain ⟨k,h1,h2,h3⟩:=ih h
   refine ⟨k+1,by simp;omega,by simpa using h2,λj hj=>?_⟩
   cases j with
   | zero=>exact hx
   | succ j=>simpa using h3 j (by omega)
theorem sValid_in (h:SceneM n m q a b s) (hl:rows.length≤1000):∀ sc:Scenario,sc.question=q→sc.state=s→loopF (ze.l1 n m sc rows) n 0=some ((rows.all λx=>!badR m x)&&zgF m q rows a b s):=by
 intro sc hq hst
 have hn:=h.fuel
 have hb:=h.box
 have hsl:=h.len
 have hcl:=h.small.constraints
 obtain ⟨q1,q2,q3,q4,q5⟩:=zhz h.quest
 have ham:=zav h.ha
 have hbm:=zav h.hb
 have hmid:=h.low.mid
 have hA:=h.dA
 have hB:=h.dB
 have hpl:(plusP (plusP s a.effect.delta) b.effect.delta).length=s.length:=by rw [zaN,zaN]
 have hcon:∀ c∈m.constraints,zbg n c (plusP (plusP s a.effect.delta) b.effect.delta)=some (zae c (plusP (plusP s a.effect.delta) b.effect.delta)):=λc hc=>sHolds_eq (h.con hpl hc) (h.low.plus2 hA.small hB.small) (by omega) (by omega)
 have hend:∀ rec,ze.l2 n m sc rows (plusP (plusP s a.effect.delta) b.effect.delta) rec (rows.length:Int)=some (zfs m q a b s):=λrec=>by
  simp only [ze.l2,zap,ye,if_false,hq,hst]
  unfold zfs
  cases hh:q.target.hold with
  | true=>
   simp only [if_true]
   obtain ⟨r,hr⟩:=za9 q3 (q4 hh a h.ha)
   obtain ⟨r1,r2,-⟩:=ziA h ham (zav hr)
   rw [h.ha,ya,hr,ya,sBehind_1 h.hb hmid (by omega) hB (by omega),ya,sSum_eq (h.low.plus hB.small) (by rw [zaN];exact r1) r2 (by omega),ya,yf,holds_row (c:=⟨0,0,r,0,0⟩) rfl]
   congr 1
   rw [Bool.eq_iff_iff]
   simp
  | false=>
   simp only [ye,if_false]
   obtain ⟨c,hc⟩:=za9 q3 (q5 hh).2
   rw [hc,ya,hcon c (zav hc)]
   rfl
 have hloop2:(rows.all λx=>!badR m x)=true→loopF (ze.l2 n m sc rows (plusP (plusP s a.effect.delta) b.effect.delta)) n 0=some ((rows.all λi=>!(relB q i&&!zae ((idx m.constraints i).getD default) (plusP (plusP s a.effect.delta) b.effect.delta)))&&zfs m q a b s):=λhgood=>by
  have:=zay (body:=ze.l2 n m sc rows (plusP (plusP s a.effect.delta) b.effect.delta)) (l:=rows) (n:=n) (st:=λi=>(i:Int)) (λi=>!(relB q i&&!zae ((idx m.constraints i).getD default) (plusP (plusP s a.effect.delta) b.effect.delta))) (some false) (some (zfs m q a b s)) (λrec i hi=>?_) (λrec=>hend rec) (by omega)
  ·rw [show ((0:Nat):Int)=0 from rfl] at this
   rw [this]
   cases (rows.all λi=>!(relB q i&&!zae ((idx m.constraints i).getD default) (plusP (plusP s a.effect.delta) b.effect.delta))) <;> rfl
  ·obtain ⟨k,hk,e,-⟩:=badR_ok hgood _ (yk hi)
   have hc:idx m.constraints rows[i]=some m.constraints[k]:=by rw [e];exact za hk
   have hrel:(q.target.hold||(rows[i] != q.target.index))=relB q rows[i]:=by
    unfold relB
    rw [bne_comm (a:=rows[i])]
   simp only [ze.l2,zo hi,if_true,za hi,ya,yj,yy,grd,yf,hc,hcon _ (yk hk),zc (i:=i) (by omega),hq,hrel]
   cases relB q rows[i]&&!zae m.constraints[k] (plusP (plusP s a.effect.delta) b.effect.delta) <;> simp
 have hbr:zaD n m s=some (brkP m s):=sBroken_eq (λc hc=>h.con rfl hc) hmid (by omega) (by omega) (by omega)
 have hbeh:=sBehind_2 h.ha h.hb hmid (h.low.plus hA.small) (by omega) hA hB (show 1000000≤n by omega)
 have hbn:decide (0<((brkP m s).length:Int)) = !(m.constraints.all λc=>zae c s):=by
  rw [← brk_nil]
  cases brkP m s with
  | nil=>rfl
  | cons x l=>simp
 have hl1:∀ rec,(rows.all λx=>!badR m x)=true→ze.l1 n m sc rows rec (rows.length:Int)=some (zgF m q rows a b s):=λrec hgood=>by
  simp only [ze.l1,zap,ye,if_false,hq,hst,hbr,ya,sPoss_eq h h.ha,sPoss_eq h h.hb,yj,yy,grd,if_true,yf,hbeh,hloop2 hgood,hbn]
  unfold zgF
  rw [possP_eq,possP_eq]
  generalize (rows.all λi=>!(relB q i&&!zae ((idx m.constraints i).getD default) (plusP (plusP s a.effect.delta) b.effect.delta)))=X
  cases (m.constraints.all λc=>zae c s) <;> cases (m.constraints.all λc=>zae c (plusP s a.effect.delta)) <;> cases (m.constraints.all λc=>zae c (plusP s b.effect.delta)) <;> cases (a.effect.hold.all λr=>zae ⟨0,0,r,0,0⟩ s) <;> cases (b.effect.hold.all λr=>zae ⟨0,0,r,0,0⟩ s) <;> simp
 have hstep:∀ rec (i:Nat) (hi:i<rows.length),ze.l1 n m sc rows rec (i:Int)=if badR m rows[i]=true then some false else rec ((i+1:Nat):Int):=λrec i hi=>by
  simp only [ze.l1,zo hi,if_true,za hi,ya,zc (i:=i) (by omega)]
  unfold badR
  generalize rows[i]=r
  by_cases h0:r<0
  ·simp [h0,grd]
  ·by_cases h1:(m.constraints.length:Int)≤r
   ·simp [h1,grd]
   ·obtain ⟨c,hc⟩:=za9 (l:=m.constraints) (i:=r) (by omega) (by omega)
    simp only [hc,yj,yy,grd,if_true,yf]
 cases hg:rows.all λx=>!badR m x with
 | true=>
  have:=zD (body:=ze.l1 n m sc rows) (len:=rows.length) (st:=λi=>(i:Int)) (g:=λ_=>some (zgF m q rows a b s)) (λrec i hi hr=>?_) (λrec=>hl1 rec hg) n 0 (yp _) (by omega)
  ·rw [show ((0:Nat):Int)=0 from rfl] at this
   rw [this];rfl
  ·have:=yo.1 hg _ (yk hi)
   simp only [yw] at this
   rw [hstep rec i hi,this,if_neg (by simp)]
   exact hr
 | false=>
  obtain ⟨k,h1,h2,h3⟩:=bad_ex hg
  have:=zD (body:=ze.l1 n m sc rows) (len:=k) (st:=λi=>(i:Int)) (g:=λ_=>some false) (λrec i hi hr=>?_) (λrec=>?_) n 0 (yp _) (by omega)
  ·rw [show ((0:Nat):Int)=0 from rfl] at this
   rw [this];rfl
  ·rw [hstep rec i (by omega),h3 i hi,if_neg (by simp)]
   exact hr
  ·rw [hstep rec k h1,h2,if_pos rfl]
end
section
variable {n:Nat} {m:Model} {q:Question} {rows:List Int} {a b:Action} {s:List Int}
theorem addA (h:SceneM n m q a b s) {x:Action} (hx:x∈m.actions):x.effect.delta.length<4611686018427387904∧x.effect.delta.length<n∧(∀ k,addP k x.effect.delta 0=zcf x.effect.delta k):=by
 obtain ⟨g1,g2,g3,-⟩:=(good_of_valid h.fuel h.small h.valid).acts x hx
 exact ⟨g1,g2,g3⟩
theorem rPlus (h:SceneM n m q a b s) {x:Action} (hx:x∈m.actions) {y:List Int} (hy:midS y) (hl:y.length=s.length):zaU n y x.effect=some (plusP y x.effect.delta):=by
 obtain ⟨g1,g2,g3⟩:=addA h hx
 have:=h.box
 have:=h.len
 have:=h.fuel
 exact PlusM_eq g1 g2 g3 (actD_of h.small h.valid hx).small hy (by omega) (by omega)
theorem rRow (h:SceneM n m q a b s) {x:Action} (hx:x∈m.actions) {r:Row} (hr:r∈x.effect.hold) {y:List Int} (hy:wideS y) (hl:y.length=s.length):zgz n r y=some (zae ⟨0,0,r,0,0⟩ y):=by
 have:=h.box
 have:=h.len
 obtain ⟨-,-,r3⟩:=ziA h hx hr
 unfold zgz
 rw [zhK (by rw [hl];exact r3) hy (by omega) h.fuel];rfl
theorem rPoss (h:SceneM n m q a b s) {x:Action} (hx:x∈m.actions):zN n m x.effect s=some (possP m x.effect s):=by
 have hn:=h.fuel
 have hb:=h.box
 have hsl:=h.len
 have hcl:=h.small.constraints
 obtain ⟨-,a2,a3,-,-⟩:=h.small.act x hx
 have hd:=(actD_of h.small h.valid hx).small
 have hpl:=zaN s x.effect.delta
 unfold zN possP
 rw [rPlus h hx h.low.mid rfl,ya]
 have T:loopF (zN.l2 n x.effect s) n 0=if (x.effect.hold.all λr=>zae ⟨0,0,r,0,0⟩ s)=true then some true else some false:=by
  have:=zay (body:=zN.l2 n x.effect s) (l:=x.effect.hold) (n:=n) (st:=λi=>(i:Int)) (λr=>zae ⟨0,0,r,0,0⟩ s) (some false) (some true) (λrec i hi=>?_) (λrec=>?_) (by omega)
  ·simpa using this
  ·simp only [zN.l2,zo hi,if_true,za hi,ya,rRow h hx (yk hi) h.low.mid.wide rfl,zc (i:=i) (by omega)]
   cases zae ⟨0,0,x.effect.hold[i],0,0⟩ s <;> simp
  ·simp [zN.l2]
 have:=zay (body:=zN.l1 n m x.effect s (plusP s x.effect.delta)) (l:=m.constraints) (n:=n) (st:=λi=>(i:Int)) (λc=>zae c s&&zae c (plusP s x.effect.delta)) (some false) (loopF (zN.l2 n x.effect s) n 0) (λrec i hi=>?_) (λrec=>?_) (by omega)
 ·simp only [Int.natCast_zero] at this
  rw [this,T]
  cases (m.constraints.all λc=>zae c s&&zae c (plusP s x.effect.delta)) <;> cases (x.effect.hold.all λr=>zae ⟨0,0,r,0,0⟩ s) <;> rfl
 ·have h1:zaR n m.constraints[i] s=some (zae m.constraints[i] s):=zhK (h.con rfl (yk hi)) h.low.mid.wide (by omega) hn
  have h2:zaR n m.constraints[i] (plusP s x.effect.delta)=some (zae m.constraints[i] (plusP s x.effect.delta)):=zhK (h.con hpl (yk hi)) (h.low.plus hd).wide (by omega) hn
  simp only [zN.l1,zo hi,if_true,za hi,ya,h1,h2,yj,yy,grd,yf,zc (i:=i) (by omega)]
  cases zae m.constraints[i] s <;> cases zae m.constraints[i] (plusP s x.effect.delta) <;> simp
 ·simp [zN.l1]
theorem rShows (h:SceneM n m q a b s) (hl:rows.length≤1000) (hgood:(rows.all λx=>!badR m x)=true):zax n m q rows s=some (zgF m q rows a b s):=by
 have hn:=h.fuel
 have hb:=h.box
 have hrows:=badR_ok hgood
 obtain ⟨q1,q2,q3,q4,q5⟩:=zhz h.quest
 have ham:=zav h.ha
 have hbm:=zav h.hb
 have hsl:=h.len
 have hA:=h.dA
 have hB:=h.dB
 have hlab:(plusP (plusP s a.effect.delta) b.effect.delta).length=s.length:=by rw [zaN,zaN]
 have hcons:∀ c∈m.constraints,zaR n c (plusP (plusP s a.effect.delta) b.effect.delta)=some (zae c (plusP (plusP s a.effect.delta) b.effect.delta)):=λc hc=>
  zhK (h.con hlab hc) (h.low.plus2 hA.small hB.small).wide (by omega) hn
 have hend:∀ rec,zax.l2 n m q rows s a b (plusP (plusP s a.effect.delta) b.effect.delta) rec (rows.length:Int)=some (zfs m q a b s):=λrec=>by
  simp only [zax.l2,zap,ye,if_false]
  unfold zfs
  cases hh:q.target.hold with
  | true=>
   simp only [if_true]
   obtain ⟨r,hr⟩:=za9 q3 (q4 hh a h.ha)
   rw [hr,ya,rPlus h hbm h.low.mid rfl,ya,rRow h ham (zav hr) (h.low.plus hB.small).wide (zaN _ _)]
   rfl
  | false=>
   simp only [ye,if_false]
   obtain ⟨c,hc⟩:=za9 q3 (q5 hh).2
   rw [hc,ya,hcons c (zav hc)]
   rfl
 have hloop2:loopF (zax.l2 n m q rows s a b (plusP (plusP s a.effect.delta) b.effect.delta)) n 0=if (rows.all λi=>!(relB q i&&!zae ((idx m.constraints i).getD default) (plusP (plusP s a.effect.delta) b.effect.delta)))=true then some (zfs m q a b s) else some false:=by
  have:=zay (body:=zax.l2 n m q rows s a b (plusP (plusP s a.effect.delta) b.effect.delta)) (l:=rows) (n:=n) (st:=λi=>(i:Int)) (λi=>!(relB q i&&!zae ((idx m.constraints i).getD default) (plusP (plusP s a.effect.delta) b.effect.delta))) (some false) (some (zfs m q a b s)) (λrec i hi=>?_) (λrec=>hend rec) (by omega)
  ·simpa using this
  ·obtain ⟨k,hk,e,-⟩:=hrows _ (yk hi)
   have hc:idx m.constraints rows[i]=some m.constraints[k]:=by rw [e];exact za hk
   simp only [zax.l2,zo hi,if_true,za hi,yj,yy,grd,yf,hc,hcons _ (yk hk),zc (i:=i) (by omega)]
   unfold relB
   cases (q.target.hold||(q.target.index != rows[i]))&&!zae m.constraints[k] (plusP (plusP s a.effect.delta) b.effect.delta) <;> simp
 have hloop1:loopF (zax.l1 n m q rows s) n 0=some (zgF m q rows a b s):=by
  have:=zD (body:=zax.l1 n m q rows s) (len:=rows.length) (st:=λi=>(i:Int)) (g:=λ_=>some (zgF m q rows a b s)) (λrec i hi hr=>?_) (λrec=>?_) n 0 (yp _) (by omega)
  ·simpa using this
  ·obtain ⟨k,hk,e,-⟩:=hrows _ (yk hi)
   simp only [zax.l1,zo hi,if_true,za hi,ya,yj,yy,grd,yf,zc (i:=i) (by omega),hr]
   rw [if_neg (by rw [e];simp;omega)]
  ·simp only [zax.l1,zap,ye,if_false,h.ha,h.hb,ya,rPoss h ham,rPoss h hbm,yj,yy,grd,if_true,yf]
   rw [rPlus h ham h.low.mid rfl,ya,rPlus h hbm (h.low.plus hA.small) (zaN _ _),ya,hloop2]
   unfold zgF
   generalize (rows.all λi=>!(relB q i&&!zae ((idx m.constraints i).getD default) (plusP (plusP s a.effect.delta) b.effect.delta)))=X
   cases possP m a.effect s <;> cases possP m b.effect s <;> cases X <;> simp
 unfold zax
 rw [zdL h.valid.lay (by omega),ya,if_neg (by simp [hsl])]
 exact hloop1
theorem ranges_eq (hF:Fuel n) (hS:SmallM m) (hV:ValidM m):zc0 n m=some (boxM m):=by
 have h1:=hS.sorts
 have h2:=hS.tables
 unfold zc0 zgq
 rw [zha hF hS,zcJ.2 hV,ya,if_neg (by simp),zf6 hF (by omega) (by omega) (λt ht=>by have:=(hS.tab t ht).2;omega),if_pos hV.lay]
 rfl
end
def suitP (m:Model) (s:Scenario):Bool:=(zdp m&&zes m s.question)&&decide (s.state.length=(boxM m).length)
theorem suits_eq {n:Nat} {m:Model} {s:Scenario} (hF:Fuel n) (hS:SmallM m):zbv n m s=some (suitP m s):=by
 unfold zbv suitP
 rw [symmetry_Valid_eq hF hS,ya]
 cases hv:zdp m&&zes m s.question with
 | false=>simp [grd]
 | true=>
  have hV:=zcJ.1 (by simp only [yc] at hv;exact hv.1:zdp m=true)
  rw [ranges_eq hF hS hV]
  simp only [grd,yj,yy,if_true,yf,yE]
  congr 1
  rw [Bool.eq_iff_iff]
  simp
  omega
theorem scene_of {n:Nat} {m:Model} {s:Scenario} (hn:4294967296≤n) (hS:SmallM m) (h:suitP m s=true) (hl:lowS s.state):∃ a b,SceneM n m s.question a b s.state:=by
 simp only [suitP,yc,yd] at h
 obtain ⟨⟨h1,h2⟩,h3⟩:=h
 obtain ⟨q1,q2,-⟩:=zhz h2
 obtain ⟨a,ha⟩:=za9 q1.1 q1.2
 obtain ⟨b,hb⟩:=za9 q2.1 q2.2
 exact ⟨a,b,hS,zcJ.1 h1,h2,ha,hb,h3,hl,hn⟩
theorem small24_eq {n:Nat} {x:List Int} (hn:1000000≤n):zdx n x=some (decide (x.length≤150)&&x.all λv=>decide (-1099511627776≤v)&&decide (v≤1099511627776)):=by
 unfold zdx
 by_cases hl:x.length≤150
 ·have hd:decide ((x.length:Int)≤150)=true:=by simp;omega
  have hc:=zbQ (n:=n) (l:=x) (f:=λq0=>zcD n q0) (p:=λv=>!(decide (-1099511627776≤v)&&decide (v≤1099511627776))) (λv _=>by
   unfold zcD
   congr 1
   rw [Bool.eq_iff_iff]
   simp) (by omega) (by omega)
  rw [hc,hd]
  simp only [grd,yj,yy,if_true,yf,yE,hl,decide_true,zit]
 ·have hd:decide ((x.length:Int)≤150)=false:=by simp;omega
  rw [hd]
  simp [grd,hl]
theorem low_of {x:List Int} (h:(x.all λv=>decide (-1099511627776≤v)&&decide (v≤1099511627776))=true):lowS x:=λv hv=>by
 have:=yo.1 h v hv
 simpa using this
def actE (m:Model) (s:Scenario):Action:=(idx m.actions s.question.e).getD default
def fA (m:Model) (s:Scenario):Action:=(idx m.actions s.question.f).getD default
def bothP (m:Model) (s:Scenario):List Int:=plusP (plusP s.state (actE m s).effect.delta) (fA m s).effect.delta
theorem zbN {n:Nat} {m:Model} {s:Scenario} (hn:4294967296≤n) (hS:SmallM m) (h:suitP m s=true) (hl:lowS s.state):SceneM n m s.question (actE m s) (fA m s) s.state:=by
 obtain ⟨a,b,hs⟩:=scene_of hn hS h hl
 have e1:actE m s=a:=by unfold actE;rw [hs.ha];rfl
 have e2:fA m s=b:=by unfold fA;rw [hs.hb];rfl
 rw [e1,e2];exact hs
def validQ (m:Model) (s:Scenario) (rows:List Int):Bool:=suitP m s&&((rows.all λx=>!badR m x)&&zgF m s.question rows (actE m s) (fA m s) s.state)
section
variable {n:Nat} {m:Model} {s:Scenario} {rows:List Int} (hF:Fuel n) (hS:SmallM m) (hl:lowS s.state)
include hF hS hl
theorem sValid_eq (hr:rows.length≤1000):ze n m s rows=some (validQ m s rows):=by
 unfold ze validQ
 rw [suits_eq hF hS,ya]
 cases h:suitP m s with
 | false=>rfl
 | true=>
  rw [if_neg (by simp),sValid_in (zbN hF.big hS h hl) hr s rfl rfl]
  rfl
theorem sMerged_eq:zS n m s=some (if suitP m s=true then bothP m s else []):=by
 unfold zS
 rw [suits_eq hF hS,ya]
 cases h:suitP m s with
 | false=>rfl
 | true=>
  have hsc:=zbN hF.big hS h hl
  have:=hsc.box
  have:=hsc.len
  have:=hsc.fuel
  rw [if_neg (by simp),sBehind_2 hsc.ha hsc.hb hl.mid (hl.plus hsc.dA.small) (by omega) hsc.dA hsc.dB (by omega),ya,if_pos rfl]
  rfl
omit hF hS hl in
theorem both_len:(bothP m s).length=s.state.length:=by unfold bothP;rw [zaN,zaN]
theorem rMerged_eq:zdU n m s=some (if suitP m s=true then bothP m s else []):=by
 have hn:=hF.big
 unfold zdU
 rw [zhk hn hS,ya]
 unfold suitP
 cases hv:zdp m&&zes m s.question with
 | false=>simp [grd]
 | true=>
  have hV:=zcJ.1 (by simp only [yc] at hv;exact hv.1:zdp m=true)
  rw [zdL hV.lay (by omega)]
  simp only [uf,ut,yj,grd,if_true,yf,yE]
  by_cases e:s.state.length=(boxM m).length
  ·have hsu:suitP m s=true:=by unfold suitP;rw [hv];simp [e]
   have hsc:=zbN hn hS hsu hl
   rw [if_neg (by simp [e]),hsc.ha,ya,rPlus hsc (zav hsc.ha) hl.mid rfl,ya,hsc.hb,ya,rPlus hsc (zav hsc.hb) (hl.plus hsc.dA.small) (zaN _ _),ya,if_pos (by simpa using e)]
   rfl
  ·rw [if_pos (by simp;omega),if_neg (by simpa using e)]
theorem rScen_eq (hr:rows.length≤1000) (hgood:(rows.all λx=>!badR m x)=true):zdM n m s.question rows s.state=some (suitP m s&&zgF m s.question rows (actE m s) (fA m s) s.state):=by
 have hn:=hF.big
 unfold zdM
 rw [zhk hn hS,ya]
 cases hv:zdp m&&zes m s.question with
 | false=>simp [suitP,hv]
 | true=>
  have hV:=zcJ.1 (by simp only [yc] at hv;exact hv.1:zdp m=true)
  rw [if_neg (by simp)]
  by_cases e:s.state.length=(boxM m).length
  ·have hsu:suitP m s=true:=by unfold suitP;rw [hv];simp [e]
   rw [rShows (zbN hn hS hsu hl) hr hgood,ya,hsu,yE]
  ·have hsu:suitP m s=false:=by unfold suitP;rw [hv];simp [e]
   unfold zax
   rw [zdL hV.lay (by omega),ya,if_pos (by simp;omega),hsu,ya,uc]
theorem rValid_eq (hr:rows.length≤1000):zbA n m s rows=some (validQ m s rows):=by
 have hn:=hF.big
 have hstep:∀ rec (i:Nat) (hi:i<rows.length),zbA.l1 n m s rows rec (i:Int)=if badR m rows[i]=true then some false else rec ((i+1:Nat):Int):=λrec i hi=>by
  simp only [zbA.l1,zo hi,if_true,za hi,ya,yj,yy,grd,yf,zc (i:=i) (by omega)]
  unfold badR
  generalize rows[i]=r
  by_cases h0:r<0
  ·simp [h0]
  ·by_cases h1:(m.constraints.length:Int)≤r
   ·simp [h1]
   ·obtain ⟨c,hc⟩:=za9 (l:=m.constraints) (i:=r) (by omega) (by omega)
    simp only [hc,yj,yy,if_true,yf]
 unfold zbA validQ
 cases hg:rows.all λx=>!badR m x with
 | true=>
  have:=zD (body:=zbA.l1 n m s rows) (len:=rows.length) (st:=λi=>(i:Int)) (g:=λ_=>some (suitP m s&&zgF m s.question rows (actE m s) (fA m s) s.state)) (λrec i hi hr=>?_) (λrec=>?_) n 0 (yp _) (by omega)
  ·rw [show ((0:Nat):Int)=0 from rfl] at this
   rw [this];rfl
  ·have:=yo.1 hg _ (yk hi)
   simp only [yw] at this
   rw [hstep rec i hi,this,if_neg (by simp)]
   exact hr
  ·simp only [zbA.l1,zap,ye,if_false,rScen_eq hF hS hl hr hg,ya]
 | false=>
  obtain ⟨k,h1,h2,h3⟩:=bad_ex hg
  have:=zD (body:=zbA.l1 n m s rows) (len:=k) (st:=λi=>(i:Int)) (g:=λ_=>some false) (λrec i hi hr=>?_) (λrec=>?_) n 0 (yp _) (by omega)
  ·rw [show ((0:Nat):Int)=0 from rfl] at this
   rw [this];simp
  ·rw [hstep rec i (by omega),h3 i hi,if_neg (by simp)]
   exact hr
  ·rw [hstep rec k h1,h2,if_pos rfl]
end
theorem big1:(1000000:Nat)≤18446744073709551616:=by decide
theorem zk {a b:List UInt8} (h:a.length+b.length≤9223372036854775807):cat a b=some (a++b):=if_pos h
theorem ziw {u:Nat} (h:u<10):Lib.decDigits u=[UInt8.ofNat (48+u)]:=by rw [Lib.decDigits,dif_pos h]
theorem decD_big {u:Nat} (h:¬ u<10):Lib.decDigits u=Lib.decDigits (u / 10)++[UInt8.ofNat (48+u % 10)]:=by rw [Lib.decDigits,dif_neg h]
theorem zhM:∀ (k u:Nat),u<10 ^ (k+1)→(Lib.decDigits u).length≤k+1
 | 0,u,h=>by rw [ziw (by simpa using h)];simp
 | k+1,u,h=>by
  by_cases hu:u<10
  ·rw [ziw hu];simp
  ·rw [decD_big hu]
   have:=zhM k (u / 10) (by rw [uG] at h;omega)
   simp;omega
theorem p20:(10:Nat) ^ (19+1)=100000000000000000000:=by decide
theorem zbK {x:Int} (h0 : -9223372036854775808≤x) (h1:x≤9223372036854775807):(itoaL x).length≤21:=by
 rw [itoaL_eq h0 h1]
 unfold Lib.itoa
 split
 ·have:=zhM 19 x.natAbs (by rw [p20];omega)
  simp;omega
 ·have:=zhM 19 x.toNat (by rw [p20];omega)
  omega
theorem dig_byte {r:Nat} (h:r<10):zg7 [wk .u8 (add64 48 (r:Int))]=[UInt8.ofNat (48+r)]:=by
 have e:add64 48 (r:Int)=((48+r:Nat):Int):=by unfold add64;rw [zaj (by omega) (by omega)];omega
 rw [e]
 have:∀ r:Fin 10,zg7 [wk .u8 (((48+r.val:Nat)):Int)]=[UInt8.ofNat (48+r.val)]:=by decide
 exact this ⟨r,h⟩
theorem decN_eq:∀ (k u:Nat),u<10 ^ (k+1)→u≤9223372036854775807→zK (k+1) (u:Int)=some (Lib.decDigits u)
 | k,u,h,hb=>by
  rw [zK,zK.body,if_neg (by simp)]
  have hr:rem64 (u:Int) 10=some ((u % 10:Nat):Int):=by
   unfold rem64
   rw [if_neg (by decide),Int.tmod_eq_emod_of_nonneg (by omega)];rfl
  have hq:quo64 (u:Int) 10=some ((u / 10:Nat):Int):=by
   unfold quo64
   rw [if_neg (by decide),Int.tdiv_eq_ediv_of_nonneg (by omega),zaj (by omega) (by omega)];rfl
  rw [hr,ya]
  simp only [jn]
  by_cases hu:u<10
  ·rw [if_neg (by simp;omega),dig_byte (by omega),ziw hu,Nat.mod_eq_of_lt hu]
  ·cases k with
   | zero=>simp at h;omega
   | succ k=>
    have hlt:u / 10<10 ^ (k+1):=by rw [uG] at h;omega
    have ih:=decN_eq k (u / 10) hlt (by omega)
    have hl:(Lib.decDigits (u / 10)).length≤20:=zhM 19 _ (by rw [p20];omega)
    rw [if_pos (by simp;omega),hq,ya,ih,ya,dig_byte (by omega),zk (by simp;omega),ya,decD_big hu]
theorem zbT {n:Nat} {x:Int} (hn:1000≤n) (h0 : -9223372036854775807≤x) (h1:x≤9223372036854775807):zK n x=some (itoaL x):=by
 rw [itoaL_eq (by omega) h1]
 obtain ⟨k,rfl⟩:∃ k,n=k+21:=⟨n - 21,by omega⟩
 have hp:∀ u:Nat,u≤9223372036854775807→∀ j,19≤j→u<10 ^ (j+1):=λu hu j hj=>by
  have h1:(10:Nat) ^ (19+1)≤10 ^ (j+1):=uy (by decide) (by omega)
  have h2:(10:Nat) ^ (19+1)=100000000000000000000:=by decide
  omega
 unfold Lib.itoa
 by_cases hx:x<0
 ·rw [if_pos hx,show k+21=(k+20)+1 by omega,zK,zK.body,if_pos (by simpa using hx)]
  have hneg:neg64 x=(x.natAbs:Int):=by unfold neg64;rw [zaj (by omega) (by omega)];omega
  have hl:(Lib.decDigits x.natAbs).length≤20:=zhM 19 _ (hp _ (by omega) 19 (by omega))
  rw [hneg,show k+20=(k+19)+1 by omega,decN_eq (k+19) x.natAbs (hp _ (by omega) _ (by omega)) (by omega),ya,zk (by simp;omega),ya]
  rfl
 ·rw [if_neg hx]
  obtain ⟨u,rfl⟩:=yQ (show 0≤x by omega)
  rw [show k+21=(k+20)+1 by omega,decN_eq (k+20) u (hp _ (by omega) _ (by omega)) (by omega),yq]
theorem ze6 {n:Nat} {x:Int} (h0 : -9223372036854775808≤x) (h1:x≤9223372036854775807):strconv_Itoa n x=some (itoaL x):=if_pos ⟨h0,h1⟩
def listP (sep:List UInt8) (l:List Int):List UInt8:=Lib.join (l.map itoaL) sep
theorem join_snoc (sep:List UInt8) (x:List UInt8):∀ l:List (List UInt8),Lib.join (l++[x]) sep=if l=[] then x else Lib.join l sep++(sep++x)
 | []=>by simp [Lib.join_one]
 | y::l=>by
  rw [y7,Lib.join_cons,Lib.join_cons,if_neg (by simp)]
  simp [Lib.joinTail]
theorem listP_snoc (sep:List UInt8) (l:List Int) (x:Int):listP sep (l++[x])=if l=[] then itoaL x else listP sep l++(sep++itoaL x):=by
 unfold listP
 rw [ul,yM,List.map_nil,join_snoc]
 simp
theorem join_len (sep:List UInt8) (B:Nat):∀ l:List (List UInt8),(∀ x∈l,x.length≤B)→(Lib.join l sep).length≤(B+sep.length)*l.length
 | [],_=>by simp [Lib.join_nil]
 | x::l,h=>by
  have hx:=h x (by simp)
  have ih:∀ l:List (List UInt8),(∀ x∈l,x.length≤B)→(Lib.joinTail sep l).length≤(B+sep.length)*l.length:=by
   intro l
   induction l with
   | nil=>intro _;simp [Lib.joinTail]
   | cons y l ih=>
    intro h
    have h1:=h y (by simp)
    have h2:=ih λz hz=>h z (by simp [hz])
    simp only [Lib.joinTail,yM,List.flatten_cons,yG,yJ] at h2 ⊢
    rw [Nat.mul_succ];omega
  have:=ih l λz hz=>h z (by simp [hz])
  rw [Lib.join_cons,yG,yJ,Nat.mul_succ];omega
def wide64 (l:List Int):Prop:=∀ x∈l,-9223372036854775807≤x∧x≤9223372036854775807
theorem zem {sep:List UInt8} {l:List Int} (hl:wide64 l):(listP sep l).length≤(21+sep.length)*l.length:=by
 unfold listP
 have:=join_len sep 21 (l.map itoaL) λx hx=>by
  obtain ⟨y,hy,rfl⟩:=yU.1 hx
  have:=hl y hy
  exact zbK (by omega) this.2
 simpa using this
theorem Join_some {n:Nat} {l:List (List UInt8)} {sep:List UInt8} (h1:l.length≤1000000) (h2:(Lib.join l sep).length≤1000000000):strings_Join n l sep=some (Lib.join l sep):=if_pos ⟨by omega,by omega⟩
theorem joined_eq {n:Nat} {l:List Int} {sep:List UInt8} {f:Int→Option (List UInt8)} {g:Int→List UInt8} (hf:∀ x∈l,f x=some (g x)) (hl:l.length≤1000) (hg:∀ x∈l,(g x).length≤100000) (hs:sep.length≤10) (hn:1000000≤n):zX n l sep f=some (Lib.join (l.map g) sep):=by
 have hj:(Lib.join (l.map g) sep).length≤(100000+sep.length)*(l.map g).length:=join_len sep 100000 _ λx hx=>by
  obtain ⟨y,hy,rfl⟩:=yU.1 hx
  exact hg y hy
 rw [yS] at hj
 have hj2:(100000+sep.length)*l.length≤100010*1000:=yN (by omega) hl
 have:=zD (body:=zX.l1 n l sep f) (len:=l.length) (st:=λi=>((l.take i).map g,(i:Int))) (g:=λ_=>some (Lib.join (l.map g) sep)) (λrec i hi hr=>?_) (λrec=>?_) n 0 (yp _) (by omega)
 ·simpa [zX] using this
 ·simp only [zX.l1,zo hi,if_true,za hi,ya,hf _ (yk hi),zc (i:=i) (by omega)]
  rw [zW (by simp;omega),ya,← hr,yr hi,ul]
  rfl
 ·simp only [zX.l1,zap,ye,if_false,List.take_length]
  rw [Join_some (by simp;omega) (by omega)];rfl
theorem sList_eq {n:Nat} {l:List Int} {sep:List UInt8} (hl:l.length≤1000) (hw:wide64 l) (hs:sep.length≤10) (hn:1000000≤n):zcd n l sep=some (listP sep l):=by
 unfold zcd
 rw [joined_eq (g:=itoaL) (λx hx=>ze6 (by have:=hw x hx;omega) (hw x hx).2) hl (λx hx=>by have:=hw x hx;have:=zbK (x:=x) (by omega) this.2;omega) hs hn]
 rfl
theorem rList_eq {n:Nat} {l:List Int} (hl:l.length≤1000) (hw:wide64 l) (hn:1000000≤n):zbI n l=some (40::listP [44,32] l++[41]):=by
 have hln:∀ i,(listP [44,32] (l.take i)).length≤23000:=λi=>by
  have h1:=zem (sep:=[44,32]) (l:=l.take i) λx hx=>hw x (List.mem_of_mem_take hx)
  have h2:(21+([44,32]:List UInt8).length)*(l.take i).length≤23*1000:=yN (by simp) (by simp;omega)
  omega
 have:=zD (body:=zbI.l1 n l) (len:=l.length) (st:=λi=>(40::listP [44,32] (l.take i),(i:Int))) (g:=λ_=>some (40::listP [44,32] l++[41])) (λrec i hi hr=>?_) (λrec=>?_) n 0 (yp _) (by omega)
 ·simpa [zbI,listP,Lib.join_nil] using this
 ·have hx:=hw _ (yk hi)
  have hil:=zbK (x:=l[i]) (by omega) hx.2
  have h0:=hln i
  rw [yr hi,listP_snoc] at hr
  by_cases e:i=0
  ·subst e
   rw [if_pos (by simp)] at hr
   simp only [zbI.l1,zo hi,if_true,jn]
   rw [if_neg (by simp),za hi,ya,zbT (by omega) hx.1 hx.2,ya,zk (by simp at h0 ⊢;omega),ya,zc (by omega),← hr]
   simp [listP,Lib.join_nil]
  ·rw [if_neg (by intro h;rcases List.take_eq_nil_iff.1 h with h | h;exact e h;rw [h] at hi;simp at hi)] at hr
   simp only [zbI.l1,zo hi,if_true,jn]
   rw [if_pos (by simp;omega),zk (by simp;omega),ya,za hi,ya,zbT (by omega) hx.1 hx.2,ya,zk (by simp;omega),ya,zc (by omega),← hr]
   simp
 ·have h0:=hln l.length
  simp only [zbI.l1,zap,ye,if_false]
  rw [zk (by simp at h0 ⊢;omega),List.take_length];rfl
def zfR (w:List UInt8) (l:List Int):List UInt8:=w++(40::listP [44,32] l++[41])
theorem sNamed_eq {n:Nat} {w:List UInt8} {l:List Int} (hwl:w.length≤1000) (hl:l.length≤1000) (hw:wide64 l) (hn:1000000≤n):zaX n w l=some (zfR w l):=by
 have h1:=zem (sep:=[44,32]) hw
 have h2:(21+([44,32]:List UInt8).length)*l.length≤23*1000:=yN (by simp) hl
 unfold zaX
 rw [zk (by simp;omega),ya,sList_eq hl hw (by simp) hn,ya,zk (by simp;omega),ya,zk (by simp;omega),ya]
 simp [zfR]
theorem zff {w:List UInt8} {l:List Int} (hwl:w.length≤1000) (hl:l.length≤1000) (hw:wide64 l):(zfR w l).length≤25000:=by
 have h1:=zem (sep:=[44,32]) hw
 have h2:(21+([44,32]:List UInt8).length)*l.length≤23*1000:=yN (by simp) hl
 simp [zfR];omega
theorem zgk {σ R:Type} {body:(σ→Option R)→σ→Option R} {n:Nat} {s:σ}:loopF body (n+1) s=body (loopF body n) s:=rfl
theorem rem_nat {r z:Nat} (hz:0<z):rem64 (r:Int) (z:Int)=some ((r % z:Nat):Int):=by
 unfold rem64
 rw [if_neg (by omega),Int.tmod_eq_emod_of_nonneg (by omega)];rfl
theorem quo_nat {r z:Nat} (hz:0<z) (hr:r≤1000000000):quo64 (r:Int) (z:Int)=some ((r / z:Nat):Int):=by
 have h1:r / z≤r:=Nat.div_le_self _ _
 unfold quo64
 rw [if_neg (by omega),Int.tdiv_eq_ediv_of_nonneg (by omega),← Int.natCast_ediv]
 generalize r / z=y at h1
 rw [zaj (by omega) (by omega)]
theorem mul_nat {a b:Nat} (h:a*b≤1000000000):mul64 (a:Int) (b:Int)=((a*b:Nat):Int):=by
 unfold mul64
 rw [zaj (by rw [← y0];omega) (by rw [← y0];omega)];simp
def tupN (zs:List Nat) (r:Nat):List Int:=match zs with
 | []=>[]
 | [a]=>[((r % a:Nat):Int)]
 | [a,b]=>[((r / b % a:Nat):Int),((r % b:Nat):Int)]
 | [a,b,c]=>[((r / c / b % a:Nat):Int),((r / c % b:Nat):Int),((r % c:Nat):Int)]
 | _=>[]
def prodN:List Nat→Nat
 | []=>1
 | a::l=>a*prodN l
structure Cols (sizes:List Int) (cols:List Int) (zs:List Nat):Prop where
 len:zs.length=cols.length
 le:cols.length≤3
 at_:∀ (i:Nat) (h:i<cols.length) (h2:i<zs.length),idx sizes cols[i]=some ((zs[i]:Nat):Int)
 bd:∀ z∈zs,1≤z∧z≤6
theorem prod_le:∀ {zs:List Nat},zs.length≤3→(∀ z∈zs,1≤z∧z≤6)→1≤prodN zs∧prodN zs≤216
 | [],_,_=>by simp [prodN]
 | [a],_,h=>by have:=h a (by simp);simp [prodN];omega
 | [a,b],_,h=>by
  have h1:=h a (by simp)
  have h2:=h b (by simp)
  have:a*b≤6*6:=yN h1.2 h2.2
  have:1*1≤a*b:=yN h1.1 h2.1
  simp [prodN];omega
 | [a,b,c],_,h=>by
  have h1:=h a (by simp)
  have h2:=h b (by simp)
  have h3:=h c (by simp)
  have:b*c≤6*6:=yN h2.2 h3.2
  have:a*(b*c)≤6*36:=yN h1.2 (by omega)
  have:1*1≤b*c:=yN h2.1 h3.1
  have:1*1≤a*(b*c):=yN h1.1 (by omega)
  simp [prodN];omega
 | _::_::_::_::_,h,_=>by simp at h
theorem len2 {l:List Nat} (h:l.length=2):∃ a b,l=[a,b]:=by
 match l,h with
 | [a,b],_=>exact ⟨a,b,rfl⟩
theorem len3 {l:List Nat} (h:l.length=3):∃ a b c,l=[a,b,c]:=by
 match l,h with
 | [a,b,c],_=>exact ⟨a,b,c,rfl⟩
section
variable {n:Nat} {m:Model} {c:Int} {t:Table} {zs:List Nat} (hC:Cols m.sorts t.columns zs) (hn:1000000≤n)
include hC hn
theorem ziE {f i r:Nat} {b:List Int} (hi:i<t.columns.length) (hz:i<zs.length) (hb:b.length=t.columns.length) (hr:r≤1000000) :
  loopF (zl.l3 n m t) (f+1) (b,(r:Int),(i:Int))=loopF (zl.l3 n m t) f (b.set i ((r % zs[i]:Nat):Int),((r / zs[i]:Nat):Int),(i:Int) - 1):=by
 have h1:=hC.bd _ (yk hz)
 have h2:=hC.le
 have hs:sub64 (i:Int) 1=(i:Int) - 1:=by unfold sub64;exact zaj (by omega) (by omega)
 have hbi:i<b.length:=by omega
 rw [zgk]
 simp only [zl.l3]
 rw [if_pos (by simp),za hi,ya,hC.at_ i hi hz,ya,rem_nat (by omega),ya,quo_nat (by omega) (by omega),ya,za hbi,ya,sto_at hbi,ya,hs]
omit hC hn in
theorem l3_end {f r:Nat} {b:List Int}:loopF (zl.l3 n m t) (f+1) (b,(r:Int),-1)=zaX n t.name b:=by
 rw [zgk]
 simp only [zl.l3]
 rw [if_neg (by simp)]
 cases zaX n t.name b <;> rfl
theorem sCell_l3 {r:Nat} (hr:r≤1000000):loopF (zl.l3 n m t) n (List.replicate t.columns.length 0,(r:Int),(t.columns.length:Int) - 1)=zaX n t.name (tupN zs r):=by
 obtain ⟨N,hN⟩:∃ N,n=N+1+1+1+1:=⟨n - 4,by omega⟩
 have hlen:=hC.len
 have hle:=hC.le
 have hd:∀ a:Nat,r / a≤1000000:=λa=>ue (Nat.div_le_self _ _) hr
 have e:∀ st,loopF (zl.l3 n m t) n st=loopF (zl.l3 n m t) (N+1+1+1+1) st:=λst=>by rw [← hN]
 rw [e]
 match hL:t.columns.length,hle with
 | 0,_=>
  obtain rfl:zs=[]:=yW (by omega)
  exact l3_end
 | 1,_=>
  obtain ⟨a,rfl⟩:∃ a,zs=[a]:=List.length_eq_one_iff.1 (by omega)
  have s1:=ziE hC hn (f:=N+1+1+1) (i:=0) (r:=r) (b:=List.replicate 1 0) (by omega) (by simp) (by simp [hL]) hr
  exact s1.trans l3_end
 | 2,_=>
  obtain ⟨a,b,rfl⟩:∃ a b,zs=[a,b]:=len2 (by omega)
  have s1:=ziE hC hn (f:=N+1+1+1) (i:=1) (r:=r) (b:=List.replicate 2 0) (by omega) (by simp) (by simp [hL]) hr
  have s2:=ziE hC hn (f:=N+1+1) (i:=0) (r:=r / b) (b:=[0,((r % b:Nat):Int)]) (by omega) (by simp) (by simp [hL]) (hd b)
  exact (s1.trans s2).trans l3_end
 | 3,_=>
  obtain ⟨a,b,c,rfl⟩:∃ a b c,zs=[a,b,c]:=len3 (by omega)
  have s1:=ziE hC hn (f:=N+1+1+1) (i:=2) (r:=r) (b:=List.replicate 3 0) (by omega) (by simp) (by simp [hL]) hr
  have s2:=ziE hC hn (f:=N+1+1) (i:=1) (r:=r / c) (b:=[0,0,((r % c:Nat):Int)]) (by omega) (by simp) (by simp [hL]) (hd c)
  have s3:=ziE hC hn (f:=N+1) (i:=0) (r:=r / c / b) (b:=[0,((r / c % b:Nat):Int),((r % c:Nat):Int)]) (by omega) (by simp) (by simp [hL]) (ue (Nat.div_le_self _ _) (hd c))
  exact ((s1.trans s2).trans s3).trans l3_end
theorem ziD {f i s:Nat} {k:Unit→Option (List UInt8)} (hi:i<t.columns.length) (hz:i<zs.length) (hs:s*zs[i]≤1000000) :
  loopF (zl.l2 n m c k t) (f+1) ((s:Int),(i:Int))=loopF (zl.l2 n m c k t) f (((s*zs[i]:Nat):Int),((i+1:Nat):Int)):=by
 have h2:=hC.le
 rw [zgk]
 simp only [zl.l2]
 rw [if_pos (by simp;omega),za hi,ya,hC.at_ i hi hz,ya,mul_nat (by omega),zc (by omega)]
theorem l2_end {f s:Nat} {k:Unit→Option (List UInt8)} (hf : -1000000≤t.first∧t.first≤1000000) (hc : -1000000≤c∧c≤1000000) (hs:s≤216) :
  loopF (zl.l2 n m c k t) (f+1) ((s:Int),(t.columns.length:Int))=if t.first≤c∧c<t.first+s then zaX n t.name (tupN zs (c - t.first).toNat) else k ():=by
 have h2:=hC.le
 have ha:add64 t.first (s:Int)=t.first+s:=by unfold add64;exact zaj (by omega) (by omega)
 have hb:sub64 c t.first=c - t.first:=by unfold sub64;exact zaj (by omega) (by omega)
 have hd:sub64 (t.columns.length:Int) 1=(t.columns.length:Int) - 1:=by unfold sub64;exact zaj (by omega) (by omega)
 rw [zgk]
 simp only [zl.l2]
 rw [if_neg (by simp),ha]
 by_cases h:t.first≤c∧c<t.first+s
 ·obtain ⟨r,hr⟩:=yQ (show 0≤c - t.first by omega)
  rw [if_neg (by simp;omega),if_pos h,mkl_0 (by omega),ya,uk,hb,hr,hd,sCell_l3 hC hn (by omega),yq]
 ·rw [if_pos (by simp;omega),if_neg h]
theorem sCell_l2 {k:Unit→Option (List UInt8)} (hf : -1000000≤t.first∧t.first≤1000000) (hc : -1000000≤c∧c≤1000000) :
  loopF (zl.l2 n m c k t) n (1,0)=if t.first≤c∧c<t.first+(prodN zs:Nat) then zaX n t.name (tupN zs (c - t.first).toNat) else k ():=by
 obtain ⟨N,hN⟩:∃ N,n=N+1+1+1+1:=⟨n - 4,by omega⟩
 have hlen:=hC.len
 have hle:=hC.le
 have hp:=prod_le (zs:=zs) (by omega) hC.bd
 have e:∀ st,loopF (zl.l2 n m c k t) n st=loopF (zl.l2 n m c k t) (N+1+1+1+1) st:=λst=>by rw [← hN]
 rw [e]
 match hL:t.columns.length,hle with
 | 0,_=>
  obtain rfl:zs=[]:=yW (by omega)
  have:=l2_end hC hn (f:=N+1+1+1) (s:=1) (k:=k) hf hc (by omega)
  rw [hL] at this
  exact this
 | 1,_=>
  obtain ⟨a,rfl⟩:∃ a,zs=[a]:=List.length_eq_one_iff.1 (by omega)
  have z1:=hC.bd a (by simp)
  have s1:=ziD (c:=c) hC hn (f:=N+1+1+1) (i:=0) (s:=1) (k:=k) (by omega) (by simp) (by simp;omega)
  have:=l2_end hC hn (f:=N+1+1) (s:=1*a) (k:=k) hf hc (by omega)
  rw [hL] at this
  rw [show prodN [a]=1*a by simp [prodN]]
  exact s1.trans this
 | 2,_=>
  obtain ⟨a,b,rfl⟩:∃ a b,zs=[a,b]:=len2 (by omega)
  have z1:=hC.bd a (by simp)
  have z2:=hC.bd b (by simp)
  have z3:a*b≤6*6:=yN z1.2 z2.2
  have s1:=ziD (c:=c) hC hn (f:=N+1+1+1) (i:=0) (s:=1) (k:=k) (by omega) (by simp) (by simp;omega)
  have s2:=ziD (c:=c) hC hn (f:=N+1+1) (i:=1) (s:=1*a) (k:=k) (by omega) (by simp) (by simp;omega)
  have:=l2_end hC hn (f:=N+1) (s:=1*a*b) (k:=k) hf hc (by simp;omega)
  rw [hL] at this
  rw [show prodN [a,b]=1*a*b by simp [prodN]]
  exact (s1.trans s2).trans this
 | 3,_=>
  obtain ⟨a,b,d,rfl⟩:∃ a b c,zs=[a,b,c]:=len3 (by omega)
  have z1:=hC.bd a (by simp)
  have z2:=hC.bd b (by simp)
  have z4:=hC.bd d (by simp)
  have z3:a*b≤6*6:=yN z1.2 z2.2
  have z5:a*b*d≤36*6:=yN (by omega) z4.2
  have s1:=ziD (c:=c) hC hn (f:=N+1+1+1) (i:=0) (s:=1) (k:=k) (by omega) (by simp) (by simp;omega)
  have s2:=ziD (c:=c) hC hn (f:=N+1+1) (i:=1) (s:=1*a) (k:=k) (by omega) (by simp) (by simp;omega)
  have s3:=ziD (c:=c) hC hn (f:=N+1) (i:=2) (s:=1*a*b) (k:=k) (by omega) (by simp) (by simp;omega)
  have:=l2_end hC hn (f:=N) (s:=1*a*b*d) (k:=k) hf hc (by simp;omega)
  rw [hL] at this
  rw [show prodN [a,b,d]=1*a*b*d by simp [prodN,Nat.mul_assoc]]
  exact ((s1.trans s2).trans s3).trans this
end
section
variable {n:Nat} {m:Model} {c:Int} {t:Table} {zs:List Nat} (hC:Cols m.sorts t.columns zs) (hn:1000000≤n)
include hC
theorem r3_step {f u j:Nat} {b:List Int} {k:Int} {rec:List Int×Int→Option (List UInt8)} (hj:j<t.columns.length) (hz:j<zs.length) (hu:u*zs[j]≤1000000) :
  loopF (zt.l3 n m c t b k rec) (f+1) ((u:Int),(j:Int))=loopF (zt.l3 n m c t b k rec) f (((u*zs[j]:Nat):Int),((j+1:Nat):Int)):=by
 have h2:=hC.le
 rw [zgk]
 simp only [zt.l3]
 rw [if_pos (by simp;omega),za hj,ya,hC.at_ j hj hz,ya,mul_nat (by omega),zc (by omega)]
theorem r3_end {f u i r:Nat} {b:List Int} {rec:List Int×Int→Option (List UInt8)} (hi:i<t.columns.length) (hz:i<zs.length) (hu:0<u) (hr:sub64 c t.first=(r:Int)) (hrb:r≤1000000) (hb:b.length≤10) :
  loopF (zt.l3 n m c t b (i:Int) rec) (f+1) ((u:Int),(t.columns.length:Int))=rec (b++[((r / u % zs[i]:Nat):Int)],((i+1:Nat):Int)):=by
 have h1:=hC.bd _ (yk hz)
 have h2:=hC.le
 rw [zgk]
 simp only [zt.l3]
 rw [if_neg (by simp),hr,quo_nat hu (by omega),ya,za hi,ya,hC.at_ i hi hz,ya,rem_nat (by omega),ya,zW (by simp;omega),ya,zc (by omega)]
include hn
theorem r2_end {f:Nat} {b:List Int} (hb:b.length≤10) (hw:wide64 b) (hname:t.name.length≤1000):loopF (zt.l2 n m c t) (f+1) (b,(t.columns.length:Int))=some (zfR t.name b):=by
 have hl:=zem (sep:=[44,32]) hw
 have h2:(21+([44,32]:List UInt8).length)*b.length≤23*10:=yN (by simp) hb
 rw [zgk]
 simp only [zt.l2]
 rw [if_neg (by simp),rList_eq (by omega) hw hn,ya,zk (by simp;omega),ya]
 rfl
theorem l2_in {f i:Nat} {b:List Int} (hi:i<t.columns.length):loopF (zt.l2 n m c t) (f+1) (b,(i:Int))=loopF (zt.l3 n m c t b (i:Int) (loopF (zt.l2 n m c t) f)) n (1,((i+1:Nat):Int)):=by
 have h2:=hC.le
 rw [zgk]
 simp only [zt.l2]
 rw [if_pos (by simp;omega),zc (by omega)]
theorem tup_wide {r:Nat}:wide64 (tupN zs r)∧(tupN zs r).length≤3:=by
 have key:∀ z∈zs,∀ y:Nat,-9223372036854775807≤((y % z:Nat):Int)∧((y % z:Nat):Int)≤9223372036854775807:=λz hz y=>by
  have h1:=hC.bd z hz
  have:=Nat.mod_lt y (show 0<z by omega)
  omega
 have hlen:=hC.len
 have hle:=hC.le
 match zs,key,hlen with
 | [],_,_=>exact ⟨by simp [tupN,wide64],by simp [tupN]⟩
 | [a],key,_=>exact ⟨λx hx=>by simp [tupN] at hx;subst hx;exact key a (by simp) _,by simp [tupN]⟩
 | [a,b],key,_=>exact ⟨λx hx=>by
   simp only [tupN,yI,List.not_mem_nil,or_false] at hx
   rcases hx with rfl | rfl
   ·exact key a (by simp) _
   ·exact key b (by simp) _,by simp [tupN]⟩
 | [a,b,d],key,_=>exact ⟨λx hx=>by
   simp only [tupN,yI,List.not_mem_nil,or_false] at hx
   rcases hx with rfl | rfl | rfl
   ·exact key a (by simp) _
   ·exact key b (by simp) _
   ·exact key d (by simp) _,by simp [tupN]⟩
 | _::_::_::_::_,_,h=>simp at h;omega
theorem rCell_l2 {r:Nat} (hr:sub64 c t.first=(r:Int)) (hrb:r≤1000000) (hname:t.name.length≤1000):loopF (zt.l2 n m c t) n ([],0)=some (zfR t.name (tupN zs r)):=by
 obtain ⟨N,hN⟩:∃ N,n=N+1+1+1+1:=⟨n - 4,by omega⟩
 obtain ⟨hw,hwl⟩:=tup_wide hC hn (r:=r)
 have hlen:=hC.len
 have hle:=hC.le
 have e:∀ st,loopF (zt.l2 n m c t) n st=loopF (zt.l2 n m c t) (N+1+1+1+1) st:=λst=>by rw [← hN]
 have e3:∀ b k rec st,loopF (zt.l3 n m c t b k rec) n st=loopF (zt.l3 n m c t b k rec) (N+1+1+1+1) st:=λb k rec st=>by rw [← hN]
 rw [e]
 match hL:t.columns.length,hle with
 | 0,_=>
  obtain rfl:zs=[]:=yW (by omega)
  have:=r2_end (c:=c) hC hn (f:=N+1+1+1) (b:=[]) (by simp) (by simp [wide64]) hname
  rw [hL] at this
  exact this
 | 1,_=>
  obtain ⟨a,rfl⟩:∃ a,zs=[a]:=List.length_eq_one_iff.1 (by omega)
  have s1:=l2_in (c:=c) hC hn (f:=N+1+1+1) (i:=0) (b:=[]) (by omega)
  have q1:=r3_end (n:=n) hC (f:=N+1+1+1) (u:=1) (i:=0) (r:=r) (b:=[]) (rec:=loopF (zt.l2 n m c t) (N+1+1+1)) (by omega) (by simp) (by omega) hr hrb (by simp)
  have fin:=r2_end (c:=c) hC hn (f:=N+1+1) (b:=tupN [a] r) (by omega) hw hname
  rw [hL] at q1 fin
  rw [e3] at s1
  refine (s1.trans q1).trans ?_
  rw [Nat.div_one]
  exact fin
 | 2,_=>
  obtain ⟨a,b,rfl⟩:∃ a b,zs=[a,b]:=len2 (by omega)
  have z1:=hC.bd a (by simp)
  have z2:=hC.bd b (by simp)
  have s1:=l2_in (c:=c) hC hn (f:=N+1+1+1) (i:=0) (b:=[]) (by omega)
  have p1:=r3_step (n:=n) (c:=c) hC (f:=N+1+1+1) (u:=1) (j:=1) (b:=[]) (k:=((0:Nat):Int)) (rec:=loopF (zt.l2 n m c t) (N+1+1+1)) (by omega) (by simp) (by simp;omega)
  have q1:=r3_end (n:=n) hC (f:=N+1+1) (u:=1*b) (i:=0) (r:=r) (b:=[]) (rec:=loopF (zt.l2 n m c t) (N+1+1+1)) (by omega) (by simp) (by omega) hr hrb (by simp)
  have s2:=l2_in (c:=c) hC hn (f:=N+1+1) (i:=1) (b:=[((r / (1*b) % a:Nat):Int)]) (by omega)
  have q2:=r3_end (n:=n) hC (f:=N+1+1+1) (u:=1) (i:=1) (r:=r) (b:=[((r / (1*b) % a:Nat):Int)]) (rec:=loopF (zt.l2 n m c t) (N+1+1)) (by omega) (by simp) (by omega) hr hrb (by simp)
  have fin:=r2_end (c:=c) hC hn (f:=N+1) (b:=tupN [a,b] r) (by omega) hw hname
  rw [hL] at q1 q2 fin
  rw [e3] at s1 s2
  refine ((s1.trans (p1.trans q1)).trans (s2.trans q2)).trans ?_
  rw [Nat.div_one,Nat.one_mul]
  exact fin
 | 3,_=>
  obtain ⟨a,b,d,rfl⟩:∃ a b c,zs=[a,b,c]:=len3 (by omega)
  have z1:=hC.bd a (by simp)
  have z2:=hC.bd b (by simp)
  have z3:=hC.bd d (by simp)
  have zz:b*d≤6*6:=yN z2.2 z3.2
  have zp:1*1≤b*d:=yN z2.1 z3.1
  have s1:=l2_in (c:=c) hC hn (f:=N+1+1+1) (i:=0) (b:=[]) (by omega)
  have p1:=r3_step (n:=n) (c:=c) hC (f:=N+1+1+1) (u:=1) (j:=1) (b:=[]) (k:=((0:Nat):Int)) (rec:=loopF (zt.l2 n m c t) (N+1+1+1)) (by omega) (by simp) (by simp;omega)
  have p2:=r3_step (n:=n) (c:=c) hC (f:=N+1+1) (u:=1*b) (j:=2) (b:=[]) (k:=((0:Nat):Int)) (rec:=loopF (zt.l2 n m c t) (N+1+1+1)) (by omega) (by simp) (by simp;omega)
  have q1:=r3_end (n:=n) hC (f:=N+1) (u:=1*b*d) (i:=0) (r:=r) (b:=[]) (rec:=loopF (zt.l2 n m c t) (N+1+1+1)) (by omega) (by simp) (by simp;omega) hr hrb (by simp)
  have s2:=l2_in (c:=c) hC hn (f:=N+1+1) (i:=1) (b:=[((r / (1*b*d) % a:Nat):Int)]) (by omega)
  have p3:=r3_step (n:=n) (c:=c) hC (f:=N+1+1+1) (u:=1) (j:=2) (b:=[((r / (1*b*d) % a:Nat):Int)]) (k:=((1:Nat):Int)) (rec:=loopF (zt.l2 n m c t) (N+1+1)) (by omega) (by simp) (by simp;omega)
  have q2:=r3_end (n:=n) hC (f:=N+1+1) (u:=1*d) (i:=1) (r:=r) (b:=[((r / (1*b*d) % a:Nat):Int)]) (rec:=loopF (zt.l2 n m c t) (N+1+1)) (by omega) (by simp) (by omega) hr hrb (by simp)
  have s3:=l2_in (c:=c) hC hn (f:=N+1) (i:=2) (b:=[((r / (1*b*d) % a:Nat):Int),((r / (1*d) % b:Nat):Int)]) (by omega)
  have q3:=r3_end (n:=n) hC (f:=N+1+1+1) (u:=1) (i:=2) (r:=r) (b:=[((r / (1*b*d) % a:Nat):Int),((r / (1*d) % b:Nat):Int)]) (rec:=loopF (zt.l2 n m c t) (N+1)) (by omega) (by simp) (by omega) hr hrb (by simp)
  have fin:=r2_end (c:=c) hC hn (f:=N) (b:=tupN [a,b,d] r) (by omega) hw hname
  rw [hL] at q1 q2 q3 fin
  rw [e3] at s1 s2 s3
  refine (((s1.trans (p1.trans (p2.trans q1))).trans (s2.trans (p3.trans q2))).trans (s3.trans q3)).trans ?_
  rw [Nat.div_one,Nat.one_mul,Nat.one_mul,Nat.mul_comm b d,← Nat.div_div_eq_div_mul]
  exact fin
end
def zsOf (m:Model) (t:Table):List Nat:=t.columns.map (nK m.sorts)
theorem cols_of {m:Model} (hL:zaf m.sorts m.tables=true) {t:Table} (ht:t∈m.tables):Cols m.sorts t.columns (zsOf m t):=by
 obtain ⟨l1,l2,l3,l4⟩:=zag hL
 obtain ⟨-,-,c1,c2,-⟩:=l4 t ht
 refine ⟨by simp [zsOf],c1,λi h h2=>?_,λz hz=>?_⟩
 ·have hc:=yo.1 c2 _ (yk h)
  rw [zej hc,← (nK_ok l3 hc).1]
  simp [zsOf]
 ·obtain ⟨x,hx,rfl⟩:=yU.1 hz
  exact (nK_ok l3 (yo.1 c2 x hx)).2
theorem zs_ok {m:Model} (hL:zaf m.sorts m.tables=true) {t:Table} (ht:t∈m.tables):(zsOf m t).length≤3∧(∀ z∈zsOf m t,1≤z∧z≤6):=by
 have hC:=cols_of hL ht
 exact ⟨by have:=hC.len;have:=hC.le;omega,hC.bd⟩
theorem prod_wN (sizes:List Int):∀ cols:List Int,prodN (cols.map (nK sizes))=wN sizes cols
 | []=>rfl
 | c::l=>by rw [yM,prodN,wN,prod_wN sizes l]
theorem wN_rev (sizes:List Int):∀ cols:List Int,wN sizes cols.reverse=wN sizes cols
 | []=>rfl
 | c::l=>by rw [List.reverse_cons,wN_append,wN_rev sizes l,wN,Nat.mul_comm];simp [wN]
theorem width_zs {m:Model} (hL:zaf m.sorts m.tables=true) {t:Table} (ht:t∈m.tables):zY m.sorts t.columns 1=((prodN (zsOf m t):Nat):Int)∧1≤prodN (zsOf m t)∧prodN (zsOf m t)≤216:=by
 obtain ⟨l1,l2,l3,l4⟩:=zag hL
 obtain ⟨-,-,c1,c2,-⟩:=l4 t ht
 have h:=width_3 l3 c2 c1
 have e:prodN (zsOf m t)=wN m.sorts t.columns.reverse:=by rw [wN_rev];exact prod_wN m.sorts t.columns
 rw [e];exact h
def cellT (m:Model) (c:Int):List Table→List UInt8
 | []=>[]
 | t::l=>if zaE t.kind=true∧t.first≤c∧c<t.first+(prodN (zsOf m t):Nat) then zfR t.name (tupN (zsOf m t) (c - t.first).toNat) else cellT m c l
def cellW (m:Model) (c:Int):List UInt8:=cellT m c m.tables
theorem tab_first {m:Model} (hL:zaf m.sorts m.tables=true) {t:Table} (ht:t∈m.tables):0≤t.first∧t.first≤1000000:=by
 obtain ⟨b1,b2,b3⟩:=lay_big hL
 have:=lay_first b1 b2 (by omega) (by omega) (by omega) (by omega) t ht
 exact ⟨this.1,this.2.1⟩
theorem tab_name {m:Model} (hL:zaf m.sorts m.tables=true) {t:Table} (ht:t∈m.tables):t.name.length≤16∧wordP t.name=true:=by
 obtain ⟨-,-,-,l4⟩:=zag hL
 have:=(l4 t ht).1
 simp only [nameP,yc,yd] at this
 exact ⟨this.1,this.2.1⟩
theorem tab_kind {m:Model} (hL:zaf m.sorts m.tables=true) {t:Table} (ht:t∈m.tables):decide (1<t.kind) = !zaE t.kind:=by
 obtain ⟨-,-,-,l4⟩:=zag hL
 have:=(l4 t ht).2.1
 unfold zaE
 rw [Bool.eq_iff_iff]
 simp only [yd,yw,ud,ub]
 omega
section
variable {n:Nat} {m:Model} {c:Int} (hL:zaf m.sorts m.tables=true) (hc : -1000000≤c∧c≤1000000) (hn:1000000≤n)
include hL hc hn
theorem sCell_eq:zl n m c=some (cellW m c):=by
 have htl:m.tables.length≤12:=(zag hL).2.1
 have:=zD (body:=zl.l1 n m c) (len:=m.tables.length) (st:=λk=>(k:Int)) (g:=λk=>some (cellT m c (m.tables.drop k))) (λrec i hi hr=>?_) (λrec=>?_) n 0 (yp _) (by omega)
 ·simpa [zl,cellW] using this
 ·have ht:=yk hi
  have hC:=cols_of hL ht
  have hf:=tab_first hL ht
  have hw:=tup_wide hC hn (r:=(c - m.tables[i].first).toNat)
  rw [zn hi]
  simp only [cellT,zl.l1,zo hi,if_true,za hi,ya,jn,zc (i:=i) (by omega),tab_kind hL ht]
  by_cases hk:zaE m.tables[i].kind=true
  ·rw [if_neg (by simp [hk]),sCell_l2 hC hn (by omega) hc]
   by_cases h:m.tables[i].first≤c∧c<m.tables[i].first+(prodN (zsOf m m.tables[i]):Nat)
   ·rw [if_pos h,if_pos ⟨hk,h⟩,sNamed_eq (by have:=(tab_name hL ht).1;omega) (by omega) hw.1 hn]
   ·rw [if_neg h,if_neg (by rintro ⟨-,h2⟩;exact h h2)];exact hr
  ·rw [if_pos (by simp [hk]),if_neg (by rintro ⟨h2,-⟩;exact hk h2)];exact hr
 ·simp [zl.l1,cellT]
theorem rCell_in:loopF (zt.l1 n m c) n 0=some (cellW m c):=by
 have htl:m.tables.length≤12:=(zag hL).2.1
 have:=zD (body:=zt.l1 n m c) (len:=m.tables.length) (st:=λk=>(k:Int)) (g:=λk=>some (cellT m c (m.tables.drop k))) (λrec i hi hr=>?_) (λrec=>?_) n 0 (yp _) (by omega)
 ·simpa [cellW] using this
 ·have ht:=yk hi
  have hC:=cols_of hL ht
  have hf:=tab_first hL ht
  have hp:=width_zs hL ht
  have hcl:=hC.le
  have hsub:sub64 c m.tables[i].first=c - m.tables[i].first:=by unfold sub64;exact zaj (by omega) (by omega)
  rw [zn hi]
  have hst:zdT n m.tables[i].kind=some (zaE m.tables[i].kind):=rfl
  simp only [cellT,zt.l1,zo hi,if_true,za hi,ya,zc (i:=i) (by omega),hst,zhi ((zag hL).2.2.2 _ ht).2.2.2.1 (by omega) hn,yj,yy,grd,yf,hp.1,hsub]
  by_cases h:zaE m.tables[i].kind=true∧m.tables[i].first≤c∧c<m.tables[i].first+(prodN (zsOf m m.tables[i]):Nat)
  ·obtain ⟨r,hr⟩:=yQ (show 0≤c - m.tables[i].first by omega)
   rw [if_neg (by simp [h.1];omega),if_pos h,rCell_l2 hC hn (by rw [hsub];exact hr) (by omega) (by have:=(tab_name hL ht).1;omega),hr,yq]
  ·rw [if_neg h,if_pos]
   ·exact hr
   ·simp only [yz,yw,yd]
    by_cases h1:zaE m.tables[i].kind=true
    ·by_cases h2:c<m.tables[i].first
     ·exact Or.inl (Or.inr h2)
     ·right
      have:¬ c<m.tables[i].first+(prodN (zsOf m m.tables[i]):Nat):=λh3=>h ⟨h1,by omega,h3⟩
      omega
    ·exact Or.inl (Or.inl (by simpa using h1))
 ·simp [zt.l1,cellT]
end
theorem cell_at {m:Model}:∀ {l:List Table} {seen:List (List UInt8)} {a b:Int} (_:∀ t∈l,t∈m.tables) (_:zaf m.sorts m.tables=true) (_:layP m.sorts seen a b l=true) (_:0≤a) (_:0≤b) (_:a+216*(l.length:Int)≤1000000) (_:b+216*(l.length:Int)≤1000000) {c:Int} (_:a≤c) (_:c<a+((zQ m.sorts true l).length:Int)),
  ∃ t∈l,∃ r:Nat,r<prodN (zsOf m t)∧c=t.first+r∧cellT m c l=zfR t.name (tupN (zsOf m t) r)
 | [],seen,a,b,_,_,_,_,_,_,_,c,h1,h2=>by simp [zQ] at h2;omega
 | x::l,seen,a,b,hm,hL,h,ha,hb,q1,q2,c,h1,h2=>by
  have hx:=hm x (by simp)
  have hw:=width_zs hL hx
  simp only [yJ] at q1 q2
  have hcast:((l.length+1:Nat):Int)=(l.length:Int)+1:=by omega
  rw [hcast] at q1 q2
  simp only [layP,yc] at h
  have h3:=h.2
  rw [zQ] at h2
  by_cases hk:zaE x.kind=true
  ·rw [if_pos hk] at h3
   simp only [yc,beq_iff_eq] at h3
   rw [add64_sm (by omega) (by omega)] at h3
   rw [if_pos (by simp [hk]),yG,uk] at h2
   by_cases hc:c<x.first+(prodN (zsOf m x):Nat)
   ·refine ⟨x,by simp,(c - x.first).toNat,by omega,by omega,?_⟩
    rw [cellT,if_pos ⟨hk,by omega,hc⟩]
   ·obtain ⟨t,ht,r,hr,e1,e2⟩:=cell_at (λt ht=>hm t (by simp [ht])) hL h3.2 (by omega) hb (by omega) (by omega) (c:=c) (by omega) (by omega)
    exact ⟨t,by simp [ht],r,hr,e1,by rw [cellT,if_neg (by rintro ⟨-,-,h5⟩;exact hc h5)];exact e2⟩
  ·rw [if_neg hk] at h3
   simp only [yc,beq_iff_eq] at h3
   rw [add64_sm (by omega) (by omega)] at h3
   rw [if_neg (by simpa using hk)] at h2
   obtain ⟨t,ht,r,hr,e1,e2⟩:=cell_at (λt ht=>hm t (by simp [ht])) hL h3.2 ha (by omega) (by omega) (by omega) (c:=c) (by omega) (by omega)
   exact ⟨t,by simp [ht],r,hr,e1,by rw [cellT,if_neg (by rintro ⟨h5,-⟩;exact hk h5)];exact e2⟩
theorem cellW_at {m:Model} (hL:zaf m.sorts m.tables=true) {c:Int} (h0:0≤c) (h1:c<((boxM m).length:Int)) :
  ∃ t∈m.tables,∃ r:Nat,r<prodN (zsOf m t)∧c=t.first+r∧cellW m c=zfR t.name (tupN (zsOf m t) r):=by
 obtain ⟨b1,b2,b3⟩:=lay_big hL
 exact cell_at (λt ht=>ht) hL b2 (by omega) (by omega) (by omega) (by omega) h0 (by unfold boxM at h1;omega)
theorem namedP_ne {w:List UInt8} {l:List Int}:zfR w l≠[]:=by simp [zfR]
theorem tup_wide2 {zs:List Nat} (hz:∀ z∈zs,1≤z∧z≤6) {r:Nat}:wide64 (tupN zs r)∧(tupN zs r).length≤3:=by
 have key:∀ z∈zs,∀ y:Nat,-9223372036854775807≤((y % z:Nat):Int)∧((y % z:Nat):Int)≤9223372036854775807:=λz h y=>by
  have h1:=hz z h
  have:=Nat.mod_lt y (show 0<z by omega)
  omega
 unfold tupN wide64
 split
 ·simp
 ·exact ⟨λx hx=>by simp at hx;subst hx;exact key _ (by simp) _,by simp⟩
 ·refine ⟨λx hx=>?_,by simp⟩
  simp only [yI,List.not_mem_nil,or_false] at hx
  rcases hx with rfl | rfl <;> exact key _ (by simp) _
 ·refine ⟨λx hx=>?_,by simp⟩
  simp only [yI,List.not_mem_nil,or_false] at hx
  rcases hx with rfl | rfl | rfl <;> exact key _ (by simp) _
 ·simp
theorem cellW_ne {m:Model} (hL:zaf m.sorts m.tables=true) {c:Int} (c0:0≤c) (c1:c<((boxM m).length:Int)):cellW m c≠[]:=by
 obtain ⟨t,ht,r,hr,e1,e2⟩:=cellW_at hL c0 c1
 rw [e2];exact namedP_ne
theorem ze8 {m:Model} (hL:zaf m.sorts m.tables=true) {c:Int} (c0:0≤c) (c1:c<((boxM m).length:Int)):(cellW m c).length≤25000:=by
 obtain ⟨t,ht,r,hr,e1,e2⟩:=cellW_at hL c0 c1
 have:=tup_wide2 (zs_ok hL ht).2 (r:=r)
 rw [e2];exact zff (by have:=(tab_name hL ht).1;omega) (by omega) this.1
theorem argsP_wide {m:Model} (hs:m.sorts.all zbn=true):∀ {l k:List Int},argsP m l k=true→l.length=k.length→∀ x∈k,-9999≤x∧x≤9999
 | [],[],_,_,x,hx=>by simp at hx
 | [],_::_,_,h,_,_=>by simp at h
 | _::_,[],_,h,_,_=>by simp at h
 | s::l,y::k,h,hl,x,hx=>by
  simp only [argsP,yc] at h
  rcases yI.1 hx with rfl | hx
  ·have h1:=h.1
   simp only [argP,zaP,yc,yz,yw,yF,yd] at h1
   have hb:(idx m.sorts s).getD default≤6:=by
    cases e:idx m.sorts s with
    | none=>simp only [Option.getD_none];decide
    | some v=>
     have:=yo.1 hs v (zav e)
     simp only [zbn,yc,yd] at this
     simp only [yf];omega
   omega
  ·exact argsP_wide hs h.2 (by simpa using hl) x hx
theorem distP_at:∀ {l seen:List (List UInt8)},distP seen l=true→(∀ w∈l,nameP w=true∧w∉seen)∧l.Nodup
 | [],_,_=>⟨by simp,by simp⟩
 | x::l,seen,h=>by
  simp only [distP,yc,yw,yF] at h
  obtain ⟨k1,k2⟩:=distP_at h.2
  refine ⟨λw hw=>?_,List.nodup_cons.2 ⟨λhx=>(k1 x hx).2 (by simp),k2⟩⟩
  rcases yI.1 hw with rfl | hw
  ·exact h.1
  ·exact ⟨(k1 w hw).1,λhs=>(k1 w hw).2 (by simp [hs])⟩
structure ActW (m:Model) (a:Action):Prop where
 op:idx m.operations a.operation=some (opAt m a)
 ge:0≤a.operation
 lt:a.operation<(m.operations.length:Int)
 name:wordP (opAt m a).name=true
 nlen:(opAt m a).name.length≤16
 wide:wide64 a.arguments
 alen:a.arguments.length≤3
theorem act_w {m:Model} (hV:ValidM m) {a:Action} (ha:a∈m.actions):ActW m a:=by
 obtain ⟨j,hj,rfl⟩:=List.getElem_of_mem ha
 have h:=hV.acts
 simp only [actsP,yc] at h
 have:=zg5.1 h.2 j hj
 rw [za hj,yf] at this
 simp only [actP,yc,beq_iff_eq] at this
 obtain ⟨⟨⟨⟨h1,h2⟩,h3⟩,-⟩,-⟩:=this
 obtain ⟨o1,o2⟩:=opAt_idx (m:=m) (a:=m.actions[j]) (by simpa using h1)
 have hO:=hV.ops
 have h4:=(ziK hO _ o2).1
 simp only [yd] at h1
 simp only [opsP,yc] at hO
 have hnm:=((distP_at hO.2.2).1 _ (List.mem_map_of_mem (f:=(·.name)) o2)).1
 simp only [nameP,yc,yd] at hnm
 have hw:=argsP_wide (lay_big hV.lay).1 h3 h2.symm
 exact ⟨o1,h1.1,h1.2,hnm.2.1,hnm.1,λx hx=>by have:=hw x hx;omega,by omega⟩
def actW (m:Model) (a:Action):List UInt8:=zfR (opAt m a).name a.arguments
theorem sAction_eq {n:Nat} {m:Model} {i:Int} {a:Action} (hV:ValidM m) (ha:idx m.actions i=some a) (hn:1000000≤n):zbj n m i=some (actW m a):=by
 have h:=act_w hV (zav ha)
 unfold zbj
 rw [ha,ya,h.op,ya,sNamed_eq (by have:=h.nlen;omega) (by have:=h.alen;omega) h.wide hn];rfl
theorem rAction_in {n:Nat} {m:Model} {i:Int} {a:Action} (hV:ValidM m) (ha:idx m.actions i=some a) (hn:1000000≤n):((idx m.actions i).bind λx23_4=>(idx m.operations x23_4.operation).bind λx29_5=>(zbI n x23_4.arguments).bind λx34_6=>(cat x29_5.name x34_6).bind λx35_7=>some x35_7)=some (actW m a):=by
 have h:=act_w hV (zav ha)
 have h1:=zem (sep:=[44,32]) h.wide
 have h2:(21+([44,32]:List UInt8).length)*a.arguments.length≤23*3:=yN (by simp) h.alen
 have h3:=h.nlen
 rw [ha,ya,h.op,ya,rList_eq (by have:=h.alen;omega) h.wide hn,ya,zk (by simp;omega)];rfl
def signW (i:Nat) (f:Int):List UInt8:=if i=0 then (if f<0 then [45] else []) else if f<0 then [32,45,32] else [32,43,32]
def timesW (f:Int):List UInt8:=if f=1∨f = -1 then [] else itoaL (if f<0 then -f else f)++[32,42,32]
def termW (m:Model) (i:Nat) (t:Term):List UInt8:=signW i t.factor++(timesW t.factor++cellW m t.cell)
def zdu (m:Model):Nat→List Term→List UInt8
 | _,[]=>[]
 | i,t::l=>termW m i t++zdu m (i+1) l
def rowW (m:Model) (r:Row):List UInt8:=(if r.terms=[] then [48] else zdu m 0 r.terms)++([32,60,61,32]++itoaL r.bound)
theorem zhH (m:Model) (t:Term):∀ (l:List Term) (i:Nat),zdu m i (l++[t])=zdu m i l++termW m (i+l.length) t
 | [],i=>by simp [zdu]
 | x::l,i=>by simp only [y7,zdu,zhH m t l (i+1),yJ,yB];congr 3;omega
theorem signW_len (i:Nat) (f:Int):(signW i f).length≤3:=by unfold signW;split <;> split <;> simp
theorem timesW_len {f:Int} (h : -1000≤f∧f≤1000):(timesW f).length≤24:=by
 unfold timesW
 split
 ·simp
 ·have:(itoaL (if f<0 then -f else f)).length≤21:=by split <;> exact zbK (by omega) (by omega)
  simp;omega
structure RowW (m:Model) (r:Row):Prop where
 terms:∀ t∈r.terms,zeD (boxM m).length t∧t.factor≠0
 len:r.terms.length≤1000
 lo : -1000000000≤r.bound
 hi:r.bound≤1000000000
section
variable {n:Nat} {m:Model} {r:Row} (hS:SmallM m) (hL:zaf m.sorts m.tables=true) (hR:RowW m r) (hn:1000000≤n)
include hS hL hR
theorem box_1e6:((boxM m).length:Int)≤1000000:=by
 have:=box_len hS hL
 omega
theorem termsW_len:∀ (l:List Term) (i:Nat),(∀ t∈l,t∈r.terms)→(zdu m i l).length≤25100*l.length
 | [],_,_=>by simp [zdu]
 | t::l,i,h=>by
  have ht:=hR.terms t (h t (by simp))
  have h1:=signW_len i t.factor
  have h2:=timesW_len ht.1.2.2
  have h3:=ze8 hL ht.1.1 ht.1.2.1
  have h4:=termsW_len l (i+1) λu hu=>h u (by simp [hu])
  simp only [zdu,termW,yG,yJ]
  omega
include hn
theorem zin (i:Nat):(zdu m 0 (r.terms.take i)).length≤25100*1000:=by
 have h1:=termsW_len hS hL hR (r.terms.take i) 0 λt ht=>List.mem_of_mem_take ht
 have h2:=hR.len
 have:(r.terms.take i).length≤1000:=by simp;omega
 omega
theorem sRow_eq:zbu n m r=some (rowW m r):=by
 have hb:=box_1e6 hS hL hR
 have hrl:=hR.len
 have hlo:=hR.lo
 have hhi:=hR.hi
 have hbl:=zbK (x:=r.bound) (by omega) (by omega)
 have:=zD (body:=zbu.l1 n m r) (len:=r.terms.length) (st:=λi=>(zdu m 0 (r.terms.take i),(i:Int))) (g:=λ_=>some (rowW m r)) (λrec i hi hr=>?_) (λrec=>?_) n 0 (yp _) (by omega)
 ·simpa [zbu,zdu] using this
 ·obtain ⟨⟨t0,t1,t2,t3⟩,t4⟩:=hR.terms _ (yk hi)
  have hcl:=ze8 hL t0 t1
  have htk:=zin hS hL hR hn i
  have htk0:(zdu m 0 []).length=0:=rfl
  have hneg:neg64 r.terms[i].factor = -r.terms[i].factor:=by unfold neg64;exact zaj (by omega) (by omega)
  have hmax:gmax r.terms[i].factor (-r.terms[i].factor)=if r.terms[i].factor<0 then -r.terms[i].factor else r.terms[i].factor:=by unfold gmax;split <;> split <;> omega
  rw [yr hi,zhH,List.length_take_of_le (by omega),uq] at hr
  simp only [zbu.l1,zo hi,if_true,za hi,ya,jn,sCell_eq hL ⟨show -1000000≤r.terms[i].cell by omega,by omega⟩ hn,zc (i:=i) (by omega),hneg,hmax]
  have key:∀ p:List UInt8,p.length≤25200000→(if ((r.terms[i].factor != 1)&&(r.terms[i].factor != (-1)))=true then
    (strconv_Itoa n (if r.terms[i].factor<0 then -r.terms[i].factor else r.terms[i].factor)).bind λx53_51=>(cat x53_51 [32,42,32]).bind λx54_52=>(cat p x54_52).bind λx55_53=>(cat x55_53 (cellW m r.terms[i].cell)).bind λx61_55=>rec (x61_55,((i+1:Nat):Int))
   else (cat p (cellW m r.terms[i].cell)).bind λx61_55=>rec (x61_55,((i+1:Nat):Int)))=rec (p++(timesW r.terms[i].factor++cellW m r.terms[i].cell),((i+1:Nat):Int)):=λp hp=>by
   have hil:(itoaL (if r.terms[i].factor<0 then -r.terms[i].factor else r.terms[i].factor)).length≤21:=by split <;> exact zbK (by omega) (by omega)
   unfold timesW
   by_cases h1:r.terms[i].factor=1∨r.terms[i].factor = -1
   ·rw [if_neg (by rcases h1 with h1 | h1 <;> simp [h1]),if_pos h1,zk (by omega),ya,yV]
   ·rw [if_pos (by simpa using h1),if_neg h1,ze6 (by split <;> omega) (by split <;> omega),ya,zk (by simp;omega),ya,zk (by simp;omega),ya,zk (by simp;omega),ya,yB]
  have hz:((i:Int)==0)=decide (i=0):=by
   rw [Bool.eq_iff_iff];simp
  have hp:decide (0<(i:Int)) = !decide (i=0):=by
   rw [Bool.eq_iff_iff];simp;omega
  rw [hz,hp]
  unfold termW at hr
  unfold signW at hr
  by_cases e:i=0
  ·subst e
   by_cases h1:r.terms[0].factor<0
   ·rw [if_pos rfl,if_pos h1] at hr
    rw [if_pos (by simpa using h1),zk (by simp;omega),ya,key _ (by simp;omega),yB]
    exact hr
   ·rw [if_pos rfl,if_neg h1] at hr
    rw [if_neg (by simpa using h1),if_neg (by simp),if_neg (by simp),key _ (by omega)]
    exact hr
  ·by_cases h1:r.terms[i].factor<0
   ·rw [if_neg e,if_pos h1] at hr
    rw [if_neg (by simp [e]),if_pos (by simp [e,h1]),zk (by simp;omega),ya,key _ (by simp;omega),yB]
    exact hr
   ·rw [if_neg e,if_neg h1] at hr
    rw [if_neg (by simp [e]),if_neg (by simp [h1]),if_pos (by simp [e]),zk (by simp;omega),ya,key _ (by simp;omega),yB]
    exact hr
 ·have htk:=zin hS hL hR hn r.terms.length
  simp only [zbu.l1,zap,ye,if_false,List.take_length,jn] at htk ⊢
  unfold rowW
  cases hts:r.terms with
  | nil=>
   rw [if_pos (by simp [zdu]),zk (by simp),ya,ze6 (by omega) (by omega),ya,zk (by simp;omega),if_pos rfl,yB];rfl
  | cons t l=>
   have ht:=hR.terms t (by rw [hts];simp)
   have hne:=cellW_ne hL ht.1.1 ht.1.2.1
   rw [hts] at htk
   rw [if_neg (by simp [zdu,termW,hne]),zk (by simp;omega),ya,ze6 (by omega) (by omega),ya,zk (by simp;omega),if_neg (by simp),yB];rfl
theorem rRow_in (hcell:∀ t∈r.terms,zt n m t.cell=some (cellW m t.cell)):loopF (zb0.l1 n m r) n ([],0)=some (rowW m r):=by
 have hb:=box_1e6 hS hL hR
 have hrl:=hR.len
 have hlo:=hR.lo
 have hhi:=hR.hi
 have hbl:=zbK (x:=r.bound) (by omega) (by omega)
 have:=zD (body:=zb0.l1 n m r) (len:=r.terms.length) (st:=λi=>(zdu m 0 (r.terms.take i),(i:Int))) (g:=λ_=>some (rowW m r)) (λrec i hi hr=>?_) (λrec=>?_) n 0 (yp _) (by omega)
 ·simpa [zdu] using this
 ·obtain ⟨⟨t0,t1,t2,t3⟩,t4⟩:=hR.terms _ (yk hi)
  have hcl:=ze8 hL t0 t1
  have htk:=zin hS hL hR hn i
  have htk0:(zdu m 0 []).length=0:=rfl
  have hneg:neg64 r.terms[i].factor = -r.terms[i].factor:=by unfold neg64;exact zaj (by omega) (by omega)
  have hmax:gmax r.terms[i].factor (-r.terms[i].factor)=if r.terms[i].factor<0 then -r.terms[i].factor else r.terms[i].factor:=by unfold gmax;split <;> split <;> omega
  rw [yr hi,zhH,List.length_take_of_le (by omega),uq] at hr
  simp only [zb0.l1,zo hi,if_true,za hi,ya,jn,hcell _ (yk hi),zc (i:=i) (by omega),hneg,hmax]
  have key:∀ p:List UInt8,p.length≤25200000→(if ((decide (1<r.terms[i].factor))||(decide (r.terms[i].factor<(-1))))=true then
    (zK n (if r.terms[i].factor<0 then -r.terms[i].factor else r.terms[i].factor)).bind λx66_52=>(cat p x66_52).bind λx67_53=>(cat x67_53 [32,42,32]).bind λx68_54=>(cat x68_54 (cellW m r.terms[i].cell)).bind λx74_56=>rec (x74_56,((i+1:Nat):Int))
   else (cat p (cellW m r.terms[i].cell)).bind λx74_56=>rec (x74_56,((i+1:Nat):Int)))=rec (p++(timesW r.terms[i].factor++cellW m r.terms[i].cell),((i+1:Nat):Int)):=λp hp=>by
   have hil:(itoaL (if r.terms[i].factor<0 then -r.terms[i].factor else r.terms[i].factor)).length≤21:=by split <;> exact zbK (by omega) (by omega)
   unfold timesW
   by_cases h1:r.terms[i].factor=1∨r.terms[i].factor = -1
   ·rw [if_neg (by simp only [yz,yd];omega),if_pos h1,zk (by omega),ya,yV]
   ·rw [if_pos (by simp only [yz,yd];omega),if_neg h1,zbT (by omega) (by split <;> omega) (by split <;> omega),ya,zk (by omega),ya,zk (by simp;omega),ya,zk (by simp;omega),ya]
    simp only [yB]
  have hp:decide (0<(i:Int)) = !decide (i=0):=by
   rw [Bool.eq_iff_iff];simp;omega
  rw [hp]
  unfold termW at hr
  unfold signW at hr
  by_cases e:i=0
  ·subst e
   by_cases h1:r.terms[0].factor<0
   ·rw [if_pos rfl,if_pos h1] at hr
    rw [if_neg (by simp),if_neg (by simp),if_pos (by simpa using h1),zk (by simp;omega),ya,key _ (by simp;omega),yB]
    exact hr
   ·rw [if_pos rfl,if_neg h1] at hr
    rw [if_neg (by simp),if_neg (by simp),if_neg (by simpa using h1),key _ (by omega)]
    exact hr
  ·by_cases h1:r.terms[i].factor<0
   ·rw [if_neg e,if_pos h1] at hr
    rw [if_pos (by simp [e,h1]),zk (by simp;omega),ya,key _ (by simp;omega),yB]
    exact hr
   ·rw [if_neg e,if_neg h1] at hr
    rw [if_neg (by simp [h1]),if_pos (by simp [e]),zk (by simp;omega),ya,key _ (by simp;omega),yB]
    exact hr
 ·have htk:=zin hS hL hR hn r.terms.length
  simp only [zb0.l1,zap,ye,if_false,List.take_length,jn] at htk ⊢
  unfold rowW
  cases hts:r.terms with
  | nil=>
   rw [if_pos (show ((([]:List Term).length:Int)==0)=true from rfl),zk (by simp),ya,zbT (by omega) (by omega) (by omega),ya,zk (by simp;omega),if_pos rfl,yB];rfl
  | cons t l=>
   rw [hts] at htk
   rw [if_neg (by simp;omega),zk (by simp;omega),ya,zbT (by omega) (by omega) (by omega),ya,zk (by simp;omega),if_neg (by simp),yB];rfl
end
theorem rowW_of {m:Model} {r:Row} (h:rowOK (boxM m).length r=true) (hl:r.terms.length≤1000):RowW m r:=by
 simp only [rowOK,zaP,yc,yd] at h
 refine ⟨λt ht=>⟨zfl h.1 (by decide) t ht,?_⟩,hl,by omega,by omega⟩
 have:∀ {l:List Term} {last:Int},rowP (boxM m).length last l=true→∀ t∈l,t.factor≠0:=by
  intro l
  induction l with
  | nil=>intro _ _ t ht;simp at ht
  | cons x l ih=>
   intro last h t ht
   simp only [rowP,yc,bne_iff_ne] at h
   rcases yI.1 ht with rfl | ht
   ·exact h.1.1.2
   ·exact ih h.2 t ht
 exact this h.1 t ht
theorem con_row {m:Model} (hV:ValidM m) {c:Constraint} (hc:c∈m.constraints):rowOK (boxM m).length c.row=true:=by
 rcases valid_con hV hc with h | h
 ·simp only [zd3,yc] at h
  exact h.2
 ·simp only [acyP,zge,yc,beq_iff_eq] at h
  obtain ⟨-,⟨h1,h2⟩,-⟩:=h
  have e:c.row.terms=[]:=yW (by omega)
  simp [rowOK,e,rowP,h2,zaP]
section
variable {n:Nat} {m:Model} (hF:Fuel n) (hS:SmallM m) (hV:ValidM m)
include hF hS hV
end
def sm6 (x:Int):Prop:=-1000000≤x∧x≤1000000
structure SmallQ (s:Scenario):Prop where
 e:sm6 s.question.e
 f:sm6 s.question.f
 ix:sm6 s.question.target.index
 st:∀ v∈s.state,sm6 v
section
variable {n:Nat} {s:Scenario} (hq:SmallQ s) (hl:s.state.length≤100000) (hn:1000000≤n)
include hq hl hn
end
section
variable {n:Nat} {L:List (List UInt8)} {ok:Bool} {w:List UInt8} (hL:∀ x∈L,x.length≤100000)
include hL
end
section
variable {s:Scenario} (hq:SmallQ s)
include hq
end
section
variable {n:Nat} {t:List UInt8} (ht:t.length≤65536) (hn:1000000≤n)
include ht hn
omit hn in
end
section
variable {n:Nat} {m:Model} {t:List UInt8} (hF:Fuel n) (hS:SmallM m) (ht:t.length≤65536)
include hF hS ht
end
def digB (c:UInt8):Bool:=decide (48≤c.toNat)&&decide (c.toNat≤57)
instance {s:List UInt8} {a:Nat}:Decidable (∃ c,(s.drop a).head? = some c∧digB c=true):=match h:(s.drop a).head? with
 | none=>isFalse (by simp)
 | some c=>if hc:digB c=true then isTrue ⟨c,rfl,hc⟩ else isFalse (by simpa using hc)
section
variable {n:Nat} {s:List UInt8} (hs:s.length≤100000) (hn:1000000≤n)
include hs hn
end
section
variable {n:Nat} (hn:1000000≤n)
include hn
end
section
variable {n:Nat} {m:Model} {t:List UInt8} (hn:4294967296≤n) (hS:SmallM m) (ht:t.length≤65536)
include hn hS ht
end
def nzP (s:List Int):List Int:=(List.range s.length).flatMap λi=>if s.getD i 0≠0 then [(i:Int)] else []
def wordC (m:Model) (s:List Int) (c:Int):List UInt8:=cellW m c++([32,61,32]++itoaL (s.getD c.toNat 0))
def stateW:List UInt8:=[105,110,32,116,104,101,32,115,116,97,116,101,32,119,105,116,104,32]
def zeroW:List UInt8:=[48,32,101,118,101,114,121,119,104,101,114,101]
def rep0W:List UInt8:=[114,101,112,108,105,99,97,32,48,32,101,120,101,99,117,116,101,115,32]
def rep1W:List UInt8:=[114,101,112,108,105,99,97,32,49,32,101,120,101,99,117,116,101,115,32]
def secondW:List UInt8:=[98,101,104,105,110,100,32,116,104,101,32,115,101,99,111,110,100,32,97,99,116,105,111,110,32]
def bothW:List UInt8:=[98,101,104,105,110,100,32,98,111,116,104,32]
def notW:List UInt8:=[32,100,111,101,115,32,110,111,116,32,104,111,108,100,58,32]
def cycleW:List UInt8:=[116,104,101,114,101,32,105,115,32,97,32,99,121,99,108,101,32,116,104,114,111,117,103,104,32]
def zeL (m:Model) (s:List Int):List UInt8:=if nzP s=[] then zeroW else Lib.join ((nzP s).map (wordC m s)) [44,32]
def zhP (m:Model) (r:Row) (x:List Int):List UInt8:=rowW m r++(notW++itoaL (sumP x r.terms))
def zeh (m:Model) (c:Constraint):List UInt8:=(idx m.families c.family).getD []
def lastW (m:Model) (s:Scenario):List UInt8:=
  if s.question.target.hold=true then secondW++zhP m ((idx (actE m s).effect.hold s.question.target.index).getD default) (plusP s.state (fA m s).effect.delta)
  else bothW++(zeh m ((idx m.constraints s.question.target.index).getD default)++([58,32] ++
    (if ((idx m.constraints s.question.target.index).getD default).kind=0 then zhP m ((idx m.constraints s.question.target.index).getD default).row (bothP m s)
     else cycleW++listP [44,32] (cyc1 ((idx m.constraints s.question.target.index).getD default) (bothP m s)))))
def tellW (m:Model) (s:Scenario):List (List UInt8):=[stateW++zeL m s.state,rep0W++actW m (actE m s),rep1W++actW m (fA m s),lastW m s]
theorem nz_mem {s:List Int} {c:Int} (h:c∈nzP s):0≤c∧c<(s.length:Int):=by
 unfold nzP at h
 obtain ⟨i,hi,hc⟩:=uw.1 h
 rw [yX] at hi
 split at hc
 ·simp only [yO] at hc;omega
 ·simp at hc
theorem nz_len (s:List Int):(nzP s).length≤s.length:=by
 have:∀ (l:List Nat),(l.flatMap λi=>if s.getD i 0≠0 then [(i:Int)] else []).length≤l.length:=by
  intro l
  induction l with
  | nil=>simp
  | cons x l ih=>
   rw [ug,yG,yJ]
   have:(if s.getD x 0≠0 then [(x:Int)] else []).length≤1:=by split <;> simp
   omega
 have:=this (List.range s.length)
 simpa [nzP] using this
section
variable {n:Nat} {m:Model} {q:Question} {a b:Action} {s:List Int}
theorem row_of_hold (h:SceneM n m q a b s) {x:Action} (hx:x∈m.actions) {r:Row} (hr:r∈x.effect.hold):RowW m r:=
 rowW_of ((act_delta h.valid hx).2 r hr) (ziA h hx hr).2.1
theorem sum_len {x:List Int} {r:Row} (hx:midS x) (ht:∀ t∈r.terms,zeD x.length t) (hl:r.terms.length≤1000):(itoaL (sumP x r.terms)).length≤21∧-9223372036854775807≤sumP x r.terms∧sumP x r.terms≤9223372036854775807:=by
 have:=sumP_mid hx ht
 exact ⟨zbK (by omega) (by omega),by omega,by omega⟩
theorem zid (hS:SmallM m) (hL:zaf m.sorts m.tables=true) {r:Row} (hR:RowW m r):(rowW m r).length≤25200000:=by
 have h1:=zin hS hL hR (n:=1000000) (yn _) r.terms.length
 have h2:=zbK (x:=r.bound) (by have:=hR.lo;omega) (by have:=hR.hi;omega)
 rw [List.take_length] at h1
 unfold rowW
 split <;> simp <;> omega
theorem Tell2_eq (hS:SmallM m) (hL:zaf m.sorts m.tables=true) {x:List Int} {r:Row} (hR:RowW m r) (hx:midS x) (ht:∀ t∈r.terms,zeD x.length t) (hn:1000000≤n):zbB n r x m=some (zhP m r x):=by
 obtain ⟨s1,s2,s3⟩:=sum_len hx ht hR.len
 have h1:=zid hS hL hR
 unfold zbB
 rw [sRow_eq hS hL hR hn,ya,zk (by simp;omega),ya,sSum_eq hx ht hR.len hn,ya,ze6 (by omega) s3,ya,zk (by simp;omega),ya,yB];rfl
theorem Value_eq {r:Row} {x:List Int} (hx:midS x) (ht:∀ t∈r.terms,zeD x.length t) (hl:r.terms.length≤1000) (hn:1000000≤n):zbz n r x=some (sumP x r.terms):=by
 have h:=sSum_eq hx ht hl hn
 have e:zbz.l1 n r x=zaL.l1 n r x:=by
  funext rec st
  unfold zbz.l1 zaL.l1
  try simp only
  split
  ·cases idx r.terms st.2 <;> rfl
  ·rfl
 unfold zbz
 rw [e]
 exact h
theorem cyc1_path {c:Constraint} {x:List Int} {size:Nat} (hG:GraphIn c x size):wide64 (cyc1 c x)∧(cyc1 c x).length≤6:=by
 have hs:=hG.sz
 have h6:=hG.six
 have hst:c.size.toNat=size:=by omega
 unfold cyc1
 rw [hst]
 cases hc:cycP (hasP ⟨c.size,zch c x (size*size)⟩) size with
 | nil=>simp [wide64]
 | cons y l=>
  have hp:=cycP_path (E:=hasP ⟨c.size,zch c x (size*size)⟩) (K:=size) (x:=y) (by rw [hc];simp)
  have:=hp.len
  refine ⟨λv hv=>?_,by simp only [List.headD_cons];omega⟩
  simp only [List.headD_cons] at hv
  have:=hp.mem v hv
  omega
theorem rEdges_eq {c:Constraint} {x:List Int} {size:Nat} (hG:GraphIn c x size) (hn:1000000≤n):zcb n ⟨c.first,c.size,List.replicate (size*size) 1⟩ x=some (zch c x (size*size)):=by
 have hs:=hG.sz
 have h6:=hG.six
 have h1:=hG.pos
 have h0:=hG.first
 have hf:=hG.fits
 have hlen:=hG.len
 have h4:size*size≤36:=yN h6 h6
 have e:mul64 c.size c.size=((size*size:Nat):Int):=by
  rw [hs];unfold mul64
  rw [zaj (by rw [← y0];omega) (by rw [← y0];omega)];simp
 unfold zcb
 have:=zD (body:=zcb.l1 n ⟨c.first,c.size,List.replicate (size*size) 1⟩ x) (len:=size*size) (st:=λi=>((zch c x (size*size)).take i,(i:Int))) (g:=λ_=>some (zch c x (size*size))) (λrec i hi hr=>?_) (λrec=>?_) n 0 (yp _) (by omega)
 ·simpa using this
 ·have hle:i<(zch c x (size*size)).length:=by rw [zcj];exact hi
  have ha:add64 c.first (i:Int)=c.first+(i:Int):=by unfold add64;exact zaj (by omega) (by omega)
  have hx:=zeM (s:=x) (c:=c.first+(i:Int)) (by omega) (by omega)
  have hone:idx (List.replicate (size*size) (1:Int)) (i:Int)=some 1:=by rw [za (by simpa using hi)];simp
  simp only [zcb.l1,e,zgl hi,if_true,ha,hx,ya,hone]
  rw [zW (by simp [zcj];omega),ya,zc (by omega),← hr,yr hle]
  congr 3
  simp [zch]
 ·simp only [zcb.l1,e,zei (yn _),ye,if_false]
  rw [List.take_of_length_le (by rw [zcj];exact yn _)]
theorem rCycle_eq {c:Constraint} {x:List Int} {size:Nat} (hG:GraphIn c x size) (hn:1000000≤n):zfE n c.size (zch c x (size*size))=some (cyc1 c x):=by
 have hs:=hG.sz
 have h6:=hG.six
 have h1:=hG.pos
 have hst:c.size.toNat=size:=by omega
 unfold zfE cyc1
 rw [hst,hs,ref19_Cycles_eq h1 h6 (zcj _ _ _) hn,ya]
 cases cycP (hasP ⟨(size:Int),zch c x (size*size)⟩) size with
 | nil=>rfl
 | cons y l=>
  rw [if_neg (by simp;omega)]
  rfl
end
section
variable {n:Nat} {m:Model} {s:Scenario} (hF:Fuel n) (hS:SmallM m) (hl:lowS s.state) (hsu:suitP m s=true)
include hF hS hl hsu
theorem con_at (hh:s.question.target.hold=false):∃ c∈m.constraints,idx m.constraints s.question.target.index=some c∧(idx m.constraints s.question.target.index).getD default=c∧idx m.families c.family=some (zeh m c)∧(zeh m c).length≤40:=by
 have hsc:=zbN hF.big hS hsu hl
 have hq:=hsc.quest
 simp only [zes,yc,yd] at hq
 obtain ⟨⟨-,q3⟩,q4⟩:=hq
 rw [hh,if_neg (by simp)] at q4
 simp only [yc,yd] at q4
 obtain ⟨j,hj⟩:=yQ q3
 rw [hj] at q4 ⊢
 have hjl:j<m.constraints.length:=by omega
 have hc:=hsc.valid.cons
 simp only [consP,yc] at hc
 have hcp:=zg5.1 hc.2 j hjl
 rw [za hjl,yf] at hcp
 simp only [conP,famP,yc,yd] at hcp
 obtain ⟨⟨⟨f1,f2⟩,-⟩,-⟩:=hcp
 obtain ⟨w,hw⟩:=za9 f1 f2
 refine ⟨m.constraints[j],yk hjl,za hjl,by rw [za hjl];rfl,?_,?_⟩
 ·unfold zeh;rw [hw];rfl
 ·unfold zeh;rw [hw];exact hS.fam _ (zav hw)
theorem hold_at (hh:s.question.target.hold=true):∃ r,idx (actE m s).effect.hold s.question.target.index=some r:=by
 have hsc:=zbN hF.big hS hsu hl
 have hq:=hsc.quest
 simp only [zes,yc,yd] at hq
 obtain ⟨⟨-,q3⟩,q4⟩:=hq
 rw [hh,if_pos rfl,yd] at q4
 exact za9 q3 q4
theorem both_mid:midS (bothP m s):=by
 have hsc:=zbN hF.big hS hsu hl
 exact hl.plus2 hsc.dA.small hsc.dB.small
theorem zfK {c:Int} (h0:0≤c) (h1:c<(s.state.length:Int)):(wordC m s.state c).length≤25100∧wordC m s.state c≠[]∧-9223372036854775807≤s.state.getD c.toNat 0∧s.state.getD c.toNat 0≤9223372036854775807:=by
 have hsc:=zbN hF.big hS hsu hl
 have hlen:=hsc.len
 have h2:=ze8 hsc.valid.lay h0 (by omega:c<((boxM m).length:Int))
 have h3:=cellW_ne hsc.valid.lay h0 (by omega:c<((boxM m).length:Int))
 have h4 : -9223372036854775807≤s.state.getD c.toNat 0∧s.state.getD c.toNat 0≤9223372036854775807:=by
  have hlt:c.toNat<s.state.length:=by omega
  have:=hl _ (yk hlt)
  simp only [y9,yA hlt,yf]
  omega
 have h5:=zbK (x:=s.state.getD c.toNat 0) (by omega) h4.2
 unfold wordC
 exact ⟨by simp at *;omega,by simp [h3],h4⟩
theorem Tell1_eq {c:Int} (h0:0≤c) (h1:c<(s.state.length:Int)):zcy n c m s=some (wordC m s.state c):=by
 have hn:=hF.big
 have hsc:=zbN hF.big hS hsu hl
 have hlen:=hsc.len
 have hb:=hsc.box
 obtain ⟨w1,w2,w3,w4⟩:=zfK hF hS hl hsu h0 h1
 have h5:=zbK (x:=s.state.getD c.toNat 0) (by omega) w4
 have h2:=ze8 hsc.valid.lay h0 (by omega:c<((boxM m).length:Int))
 unfold zcy
 rw [sCell_eq hsc.valid.lay ⟨by omega,by omega⟩ (by omega),ya,zk (by simp;omega),ya,zeM h0 h1,ya,ze6 (by omega) w4,ya,zk (by simp at *;omega),ya,yB];rfl
theorem first_len:(zeL m s.state).length≤26000*30:=by
 have hsc:=zbN hF.big hS hsu hl
 have hlen:=hsc.len
 have hb:=hsc.box
 unfold zeL
 split
 ·decide
 ·have:=join_len [44,32] 25100 ((nzP s.state).map (wordC m s.state)) λx hx=>by
   obtain ⟨c,hc,rfl⟩:=yU.1 hx
   have:=nz_mem hc
   exact (zfK hF hS hl hsu this.1 this.2).1
  have h2:=nz_len s.state
  rw [yS] at this
  have h3:(25100+([44,32]:List UInt8).length)*(nzP s.state).length≤25102*30:=yN (by simp) (by omega)
  omega
theorem sLast (w:List UInt8) (hw:w.length≤1000000):((zbj n m s.question.e).bind λx48_25=>
   (cat rep0W x48_25).bind λx49_26=>
   (zbj n m s.question.f).bind λx53_27=>
   (cat rep1W x53_27).bind λx54_28=>
   (zS n m s).bind λx59_29=>
   if s.question.target.hold=true then
    (idx m.actions s.question.e).bind λx69_30=>
    (idx x69_30.effect.hold s.question.target.index).bind λx76_31=>
    (zm n m s.state [s.question.f]).bind λx84_32=>
    (zbB n x76_31 x84_32 m).bind λx85_33=>
    (cat secondW x85_33).bind λx86_34=>
    (app 16 ([w,x49_26,x54_28]:List (List UInt8)) [x86_34]).bind λx88_35=>
    some (x88_35,(0:Int))
   else
    (idx m.constraints s.question.target.index).bind λx94_36=>
    (idx m.families x94_36.family).bind λx100_37=>
    (cat bothW x100_37).bind λx102_38=>
    (cat x102_38 [58,32]).bind λx103_39=>
    if (x94_36.kind==0)=true then
     (zbB n x94_36.row x59_29 m).bind λx113_40=>
     (cat x103_39 x113_40).bind λx114_41=>
     (app 16 ([w,x49_26,x54_28]:List (List UInt8)) [x114_41]).bind λx116_42=>
     some (x116_42,(0:Int))
    else
     (cat x103_39 cycleW).bind λx119_43=>
     (zaM n x94_36 x59_29).bind λx122_44=>
     (zcd n x122_44 [44,32]).bind λx123_45=>
     (cat x119_43 x123_45).bind λx124_46=>
     (app 16 ([w,x49_26,x54_28]:List (List UInt8)) [x124_46]).bind λx126_47=>
     some (x126_47,(0:Int)))=some ([w,rep0W++actW m (actE m s),rep1W++actW m (fA m s),lastW m s],0):=by
 have hn:=hF.big
 have hsc:=zbN hF.big hS hsu hl
 have hlen:=hsc.len
 have hb:=hsc.box
 have hV:=hsc.valid
 have hA:=act_w hV (zav hsc.ha)
 have hB:=act_w hV (zav hsc.hb)
 have lA:(actW m (actE m s)).length≤25000:=zff (by have:=hA.nlen;omega) (by have:=hA.alen;omega) hA.wide
 have lB:(actW m (fA m s)).length≤25000:=zff (by have:=hB.nlen;omega) (by have:=hB.alen;omega) hB.wide
 have l0:rep0W.length=19:=rfl
 have l1:rep1W.length=19:=rfl
 have l2:secondW.length=25:=rfl
 have l3:bothW.length=12:=rfl
 have l4:cycleW.length=25:=rfl
 have l5:notW.length=16:=rfl
 rw [sAction_eq hV hsc.ha (by omega),ya,zk (by omega),ya,sAction_eq hV hsc.hb (by omega),ya,zk (by omega),ya,sMerged_eq hF hS hl,ya,if_pos hsu]
 have happ:∀ z:List UInt8,(app 16 ([w,rep0W++actW m (actE m s),rep1W++actW m (fA m s)]:List (List UInt8)) [z]).bind (λx=>some (x,(0:Int)))=some ([w,rep0W++actW m (actE m s),rep1W++actW m (fA m s),z],0):=λz=>by
  rw [zW (by simp)];rfl
 unfold lastW
 cases hh:s.question.target.hold with
 | true=>
  obtain ⟨r,hr⟩:=hold_at hF hS hl hsu hh
  have hR:=row_of_hold hsc (zav hsc.ha) (zav hr)
  have ht:=(ziA hsc (zav hsc.ha) (zav hr)).1
  have hm:midS (plusP s.state (fA m s).effect.delta):=hl.plus hsc.dB.small
  have ht2:∀ t∈r.terms,zeD (plusP s.state (fA m s).effect.delta).length t:=by rw [zaN];exact ht
  have hfl:(zhP m r (plusP s.state (fA m s).effect.delta)).length≤25300000:=by
   have h1:=zid hS hV.lay hR
   have h2:=(sum_len hm ht2 hR.len).1
   unfold zhP
   simp only [yG];omega
  rw [if_pos rfl,if_pos rfl,hsc.ha,ya,hr,ya,sBehind_1 hsc.hb hl.mid (by omega) hsc.dB (by omega),ya,Tell2_eq hS hV.lay hR hm ht2 (by omega),ya,zk (by omega),ya,happ,yf]
 | false=>
  obtain ⟨c,hc,e1,e2,e3,e4⟩:=con_at hF hS hl hsu hh
  have hm:=both_mid hF hS hl hsu
  have hbl:=both_len (m:=m) (s:=s)
  rw [if_neg (by simp),if_neg (by simp),e1,ya,e3,ya,zk (by omega),ya,zk (by simp;omega),ya,yf]
  have hin:=con_in hS hV hc
  rw [← hlen] at hin
  by_cases hk:c.kind=0
  ·have hrow:=con_row hV hc
   have htl:=hS.con _ hc
   have hR:=rowW_of hrow (show c.row.terms.length≤1000 by omega)
   have ht2:∀ t∈c.row.terms,zeD (bothP m s).length t:=by rw [hbl,hlen];exact λt ht=>(hR.terms t ht).1
   have hfl:(zhP m c.row (bothP m s)).length≤25300000:=by
    have h1:=zid hS hV.lay hR
    have h2:=(sum_len hm ht2 hR.len).1
    unfold zhP
    simp only [yG];omega
   rw [if_pos (by simp [hk]),if_pos hk,Tell2_eq hS hV.lay hR hm ht2 (by omega),ya,zk (by simp;omega),ya,happ]
   simp only [yB]
  ·rw [if_neg (by simp [hk]),if_neg hk]
   rw [← hbl] at hin
   cases hin with
   | row h1=>exact absurd h1 hk
   | graph size g1 g2 g3 g4 g5 g6=>
    have hG:GraphIn c (bothP m s) size:=⟨g2,g3,g4,g5,g6,by rw [hbl];omega⟩
    obtain ⟨p1,p2⟩:=cyc1_path hG
    have p3:=zem (sep:=[44,32]) p1
    have p4:(21+([44,32]:List UInt8).length)*(cyc1 c (bothP m s)).length≤23*6:=yN (by simp) p2
    rw [zk (by simp;omega),ya,sCycle_eq hG (by omega),ya,sList_eq (by omega) p1 (by simp) (by omega),ya,zk (by simp;omega),ya,happ]
    simp only [yB]
theorem sTell_in:loopF (zaO.l1 n m s) n (([]:List Int),0)=some (tellW m s,0):=by
 have hn:=hF.big
 have hsc:=zbN hF.big hS hsu hl
 have hlen:=hsc.len
 have hb:=hsc.box
 have hfl:=first_len hF hS hl hsu
 have:=zfb (body:=zaO.l1 n m s) (k:=s.state.length) (n:=n) (st:=λ(b:List Int) i=>(b,(i:Int))) (λi=>if s.state.getD i 0≠0 then [(i:Int)] else []) (λb=>if b=nzP s.state then some (tellW m s,0) else loopF (zaO.l1 n m s) 1 (b,(s.state.length:Int))) 1 [] (λi hi=>by split <;> simp) (λrec b i hi hbl=>?_) (λrec b hbl=>?_) (by omega)
 ·simp only [yV,Int.natCast_zero] at this
  rw [this];exact if_pos rfl
 ·have hg:s.state.getD i 0=s.state[i]:=by simp [y9,hi]
  rw [hg]
  simp only [zaO.l1,zo hi,if_true,jn,za hi,ya,zc (i:=i) (by omega)]
  by_cases h0:s.state[i]=0
  ·rw [if_neg (by simp [h0]),if_neg (by simp [h0]),ur]
  ·rw [if_pos (by simp [h0]),if_pos h0,zW (by simp at *;omega),ya]
 ·by_cases hb2:b=nzP s.state
  ·subst hb2
   rw [if_pos rfl]
   simp only [zaO.l1,zap,ye,if_false,jn]
   have key:=λw hw=>sLast hF hS hl hsu w hw
   have hsl:stateW.length=18:=rfl
   unfold tellW
   by_cases he:nzP s.state=[]
   ·rw [if_neg (by rw [he];simp)]
    have e:zeL m s.state=zeroW:=by unfold zeL;rw [if_pos he]
    rw [e]
    exact key _ (by decide)
   ·have e:zeL m s.state=Lib.join ((nzP s.state).map (wordC m s.state)) [44,32]:=by unfold zeL;rw [if_neg he]
    have hpos:0<(nzP s.state).length:=List.length_pos_iff.2 he
    have hnl:=nz_len s.state
    have hj:zX n (nzP s.state) [44,32] (λq0=>zcy n q0 m s)=some (zeL m s.state):=by
     rw [e]
     exact joined_eq (λc hc=>Tell1_eq hF hS hl hsu (nz_mem hc).1 (nz_mem hc).2) (by omega) (λc hc=>by have:=(zfK hF hS hl hsu (nz_mem hc).1 (nz_mem hc).2).1;omega) (by simp) (by omega)
    rw [if_pos (by simp;omega),hj,ya,zk (by simp;omega),ya]
    exact key _ (by show (stateW++zeL m s.state).length≤1000000;rw [yG];omega)
  ·rw [if_neg hb2]
   simp only [loopF]
   simp only [zaO.l1,zap,ye,if_false]
theorem rCellV {c:Int} (h0:0≤c) (h1:c<(s.state.length:Int)):zt n m c=some (cellW m c):=by
 have hn:=hF.big
 have hsc:=zbN hF.big hS hsu hl
 have hlen:=hsc.len
 have hb:=hsc.box
 unfold zt
 rw [zdJ hF.big hS,zcJ.2 hsc.valid,ya,if_neg (by simp),rCell_in hsc.valid.lay ⟨by omega,by omega⟩ (by omega)]
theorem rRowV {r:Row} (h:rowOK (boxM m).length r=true) (hrl:r.terms.length≤1000):zb0 n m r=some (rowW m r):=by
 have hn:=hF.big
 have hsc:=zbN hF.big hS hsu hl
 have hlen:=hsc.len
 have hb:=hsc.box
 have hR:=rowW_of h hrl
 have hv:zcv n r ((boxM m).length:Int)=some true:=by
  have h2:=h
  simp only [rowOK,zaP,yc,yd] at h2
  have:=zbE (body:=zcv.l1 n r ((boxM m).length:Int)) (len:=r.terms.length) (st:=λ(s:Int) i=>(s,(i:Int))) (g:=λ_ _=>some true) (λi s=>rowP (boxM m).length s (r.terms.drop i)=true) (λrec i s hi hI hr=>?_) (λrec s _=>?_) n 0 (-1) (yp _) (by omega) (by simpa using h2.1)
  ·simpa [zcv] using this
  ·obtain ⟨⟨t0,t1,t2,t3⟩,t4⟩:=hR.terms _ (yk hi)
   rw [zn hi] at hI
   simp only [rowP,zaP,yc,yd,bne_iff_ne] at hI
   simp only [zcv.l1,zo hi,if_true,za hi,ya,zcw,yj,yy,grd,yf,zc (i:=i) (by omega),hr r.terms[i].cell hI.2]
   rw [if_neg]
   simp only [yz,yd,beq_iff_eq,yw,uo,yF]
   rintro (((h3 | h3) | h3) | h3)
   ·omega
   ·omega
   ·exact t4 h3
   ·omega
  ·simp only [zcv.l1,zap,ye,if_false,zcw,ya]
   simp;omega
 unfold zb0
 rw [zdJ hF.big hS,zcJ.2 hsc.valid,ya,zdL hsc.valid.lay (by omega)]
 simp only [yj,yy,grd,if_true,yf,hv]
 rw [if_neg (by simp),rRow_in hS hsc.valid.lay hR (by omega) λt ht=>rCellV hF hS hl hsu (hR.terms t ht).1.1 (by rw [hlen];exact (hR.terms t ht).1.2.1)]
theorem rActionV {i:Int} {a:Action} (ha:idx m.actions i=some a):zcx n m i=some (actW m a):=by
 have hn:=hF.big
 have hsc:=zbN hF.big hS hsu hl
 have hb:0≤i∧i<(m.actions.length:Int):=by
  unfold idx at ha
  split at ha
  ·rename_i h
   have:=yb.1 ha
   obtain ⟨h1,-⟩:=this
   omega
  ·cases ha
 unfold zcx
 rw [zdJ hF.big hS,zcJ.2 hsc.valid,ya,if_neg (by simp;omega)]
 exact rAction_in hsc.valid ha (by omega)
theorem rCyc_in {c:Constraint} {x:List Int} {size:Nat} {w a b:List UInt8} (hG:GraphIn c x size) (e3:idx m.families c.family=some (zeh m c)) (e4:(zeh m c).length≤40):loopF (zaa.l2 n m w a b c x) n (([]:List Int),0)=some ([w,a,b,bothW++(zeh m c++([58,32]++(cycleW++listP [44,32] (cyc1 c x))))],0):=by
 have hn:=hF.big
 have hs:=hG.sz
 have h6:=hG.six
 have h4:size*size≤36:=yN h6 h6
 have e:mul64 c.size c.size=((size*size:Nat):Int):=by
  rw [hs];unfold mul64
  rw [zaj (by rw [← y0];omega) (by rw [← y0];omega)];simp
 obtain ⟨p1,p2⟩:=cyc1_path hG
 have hln:∀ i,(listP [44,32] ((cyc1 c x).take i)).length≤23*6:=λi=>by
  have h1:=zem (sep:=[44,32]) (l:=(cyc1 c x).take i) λy hy=>p1 y (List.mem_of_mem_take hy)
  have h2:(21+([44,32]:List UInt8).length)*((cyc1 c x).take i).length≤23*6:=yN (by simp) (by simp;omega)
  omega
 have fin:loopF (zaa.l3 n m w a b c (cyc1 c x)) n ([],0)=some ([w,a,b,bothW++(zeh m c++([58,32]++(cycleW++listP [44,32] (cyc1 c x))))],0):=by
  have:=zD (body:=zaa.l3 n m w a b c (cyc1 c x)) (len:=(cyc1 c x).length) (st:=λi=>(listP [44,32] ((cyc1 c x).take i),(i:Int))) (g:=λ_=>some ([w,a,b,bothW++(zeh m c++([58,32]++(cycleW++listP [44,32] (cyc1 c x))))],(0:Int))) (λrec i hi hr=>?_) (λrec=>?_) n 0 (yp _) (by omega)
  ·simpa [listP,Lib.join_nil] using this
  ·have hx:=p1 _ (yk hi)
   have hil:=zbK (x:=(cyc1 c x)[i]) (by omega) hx.2
   have h0:=hln i
   rw [yr hi,listP_snoc] at hr
   by_cases e0:i=0
   ·subst e0
    rw [if_pos (by simp)] at hr
    simp only [zaa.l3,zo hi,if_true,jn]
    rw [if_neg (by simp),za hi,ya,zbT (by omega) hx.1 hx.2,ya,zk (by simp at h0 ⊢;omega),ya,zc (by omega),← hr]
    simp [listP,Lib.join_nil]
   ·rw [if_neg (by intro h;rcases List.take_eq_nil_iff.1 h with h | h;exact e0 h;rw [h] at hi;simp at hi)] at hr
    simp only [zaa.l3,zo hi,if_true,jn]
    rw [if_pos (by simp;omega),zk (by simp;omega),ya,za hi,ya,zbT (by omega) hx.1 hx.2,ya,zk (by simp;omega),ya,zc (by omega),← hr]
    simp
  ·have h0:=hln (cyc1 c x).length
   rw [List.take_length] at h0
   simp only [zaa.l3,zap,ye,if_false,e3,ya,List.take_length]
   rw [zk (by simp;omega),ya,zk (by simp;omega),ya,zk (by simp;omega),ya,zW (by simp),ya]
   simp [bothW,cycleW]
 have:=zfb (body:=zaa.l2 n m w a b c x) (k:=size*size) (n:=n) (st:=λ(o:List Int) i=>(o,(i:Int))) (λ_=>[1]) (λo=>if o=List.replicate (size*size) 1 then some ([w,a,b,bothW++(zeh m c++([58,32]++(cycleW++listP [44,32] (cyc1 c x))))],0) else loopF (zaa.l2 n m w a b c x) 1 (o,((size*size:Nat):Int))) 1 [] (λi hi=>by simp) (λrec o i hi hol=>?_) (λrec o hol=>?_) (by omega)
 ·simp only [yV,Int.natCast_zero] at this
  rw [this,if_pos]
  have:∀ k:Nat,((List.range k).flatMap λ_=>[(1:Int)])=List.replicate k 1:=by
   intro k
   induction k with
   | zero=>rfl
   | succ k ih=>rw [uJ,List.flatMap_append,ih,List.replicate_succ'];rfl
  exact this _
 ·simp only [zaa.l2,e,zgl hi,if_true]
  rw [zW (by simp at *;omega),ya,zc (by omega)]
 ·by_cases ho:o=List.replicate (size*size) 1
  ·subst ho
   rw [if_pos rfl]
   simp only [zaa.l2,e,zei (yn _),ye,if_false]
   rw [rEdges_eq hG (by omega),ya,rCycle_eq hG (by omega),ya]
   exact fin
  ·rw [if_neg ho]
   simp only [loopF]
   simp only [zaa.l2,e,zei (yn _),ye,if_false]
theorem rLast (w:List UInt8) (hw:w.length≤1000000):((cat stateW w).bind λx55_47=>
   (zcx n m s.question.e).bind λx60_48=>
   (cat rep0W x60_48).bind λx61_49=>
   (zcx n m s.question.f).bind λx66_50=>
   (cat rep1W x66_50).bind λx67_51=>
   if s.question.target.hold=true then
    (idx m.actions s.question.e).bind λx78_52=>
    (idx x78_52.effect.hold s.question.target.index).bind λx86_53=>
    (idx m.actions s.question.f).bind λx95_54=>
    (zaU n s.state x95_54.effect).bind λx98_55=>
    (zb0 n m x86_53).bind λx102_56=>
    (cat secondW x102_56).bind λx103_57=>
    (cat x103_57 notW).bind λx104_58=>
    (zbz n x86_53 x98_55).bind λx107_59=>
    (zK n x107_59).bind λx108_60=>
    (cat x104_58 x108_60).bind λx109_61=>
    (app 16 ([x55_47,x61_49,x67_51]:List (List UInt8)) [x109_61]).bind λx111_62=>
    some (x111_62,(0:Int))
   else
    (idx m.constraints s.question.target.index).bind λx118_63=>
    (zdU n m s).bind λx122_64=>
    if (x118_63.kind==0)=true then
     (idx m.families x118_63.family).bind λx131_65=>
     (cat bothW x131_65).bind λx133_66=>
     (cat x133_66 [58,32]).bind λx134_67=>
     (zb0 n m x118_63.row).bind λx138_68=>
     (cat x134_67 x138_68).bind λx139_69=>
     (cat x139_69 notW).bind λx140_70=>
     (zbz n x118_63.row x122_64).bind λx144_71=>
     (zK n x144_71).bind λx145_72=>
     (cat x140_70 x145_72).bind λx146_73=>
     (app 16 ([x55_47,x61_49,x67_51]:List (List UInt8)) [x146_73]).bind λx148_74=>
     some (x148_74,(0:Int))
    else
     loopF (zaa.l2 n m x55_47 x61_49 x67_51 x118_63 x122_64) n (([]:List Int),0))=some ([stateW++w,rep0W++actW m (actE m s),rep1W++actW m (fA m s),lastW m s],0):=by
 have hn:=hF.big
 have hsc:=zbN hF.big hS hsu hl
 have hlen:=hsc.len
 have hb:=hsc.box
 have hV:=hsc.valid
 have hA:=act_w hV (zav hsc.ha)
 have hB:=act_w hV (zav hsc.hb)
 have lA:(actW m (actE m s)).length≤25000:=zff (by have:=hA.nlen;omega) (by have:=hA.alen;omega) hA.wide
 have lB:(actW m (fA m s)).length≤25000:=zff (by have:=hB.nlen;omega) (by have:=hB.alen;omega) hB.wide
 have ls:stateW.length=18:=rfl
 have l0:rep0W.length=19:=rfl
 have l1:rep1W.length=19:=rfl
 have l2:secondW.length=25:=rfl
 have l3:bothW.length=12:=rfl
 have l5:notW.length=16:=rfl
 rw [zk (by omega),ya,rActionV hF hS hl hsu hsc.ha,ya,zk (by omega),ya,rActionV hF hS hl hsu hsc.hb,ya,zk (by omega),ya]
 have happ:∀ z:List UInt8,(app 16 ([stateW++w,rep0W++actW m (actE m s),rep1W++actW m (fA m s)]:List (List UInt8)) [z]).bind (λx=>some (x,(0:Int)))=some ([stateW++w,rep0W++actW m (actE m s),rep1W++actW m (fA m s),z],0):=λz=>by
  rw [zW (by simp)];rfl
 unfold lastW
 cases hh:s.question.target.hold with
 | true=>
  obtain ⟨r,hr⟩:=hold_at hF hS hl hsu hh
  have hrow:=(act_delta hV (zav hsc.ha)).2 r (zav hr)
  have hR:=row_of_hold hsc (zav hsc.ha) (zav hr)
  have ht:=(ziA hsc (zav hsc.ha) (zav hr)).1
  have hm:midS (plusP s.state (fA m s).effect.delta):=hl.plus hsc.dB.small
  have ht2:∀ t∈r.terms,zeD (plusP s.state (fA m s).effect.delta).length t:=by rw [zaN];exact ht
  have h1:=zid hS hV.lay hR
  obtain ⟨h2,h3,h4⟩:=sum_len hm ht2 hR.len
  rw [if_pos rfl,if_pos rfl,hsc.ha,ya,hr,ya,hsc.hb,ya,rPlus hsc (zav hsc.hb) hl.mid rfl,ya,rRowV hF hS hl hsu hrow hR.len,ya,zk (by omega),ya,zk (by simp;omega),ya,Value_eq hm ht2 hR.len (by omega),ya,zbT (by omega) h3 h4,ya,zk (by simp;omega),ya,happ,yf]
  simp only [zhP,yB]
 | false=>
  obtain ⟨c,hc,e1,e2,e3,e4⟩:=con_at hF hS hl hsu hh
  have hm:=both_mid hF hS hl hsu
  have hbl:=both_len (m:=m) (s:=s)
  rw [if_neg (by simp),if_neg (by simp),e1,ya,rMerged_eq hF hS hl,ya,if_pos hsu,yf]
  have hin:=con_in hS hV hc
  rw [← hlen] at hin
  by_cases hk:c.kind=0
  ·have hrow:=con_row hV hc
   have htl:=hS.con _ hc
   have hR:=rowW_of hrow (show c.row.terms.length≤1000 by omega)
   have ht2:∀ t∈c.row.terms,zeD (bothP m s).length t:=by rw [hbl,hlen];exact λt ht=>(hR.terms t ht).1
   have h1:=zid hS hV.lay hR
   obtain ⟨h2,h3,h4⟩:=sum_len hm ht2 hR.len
   rw [if_pos (by simp [hk]),if_pos hk,e3,ya,zk (by omega),ya,zk (by simp;omega),ya,rRowV hF hS hl hsu hrow hR.len,ya,zk (by simp;omega),ya,zk (by simp;omega),ya,Value_eq hm ht2 hR.len (by omega),ya,zbT (by omega) h3 h4,ya,zk (by simp;omega),ya,happ]
   simp only [zhP,yB]
  ·rw [if_neg (by simp [hk]),if_neg hk]
   rw [← hbl] at hin
   cases hin with
   | row h1=>exact absurd h1 hk
   | graph size g1 g2 g3 g4 g5 g6=>
    have hG:GraphIn c (bothP m s) size:=⟨g2,g3,g4,g5,g6,by rw [hbl];omega⟩
    exact rCyc_in hF hS hl hsu hG e3 e4
theorem rTell_in:loopF (zaa.l1 n m s) n ([],0)=some (tellW m s,0):=by
 have hn:=hF.big
 have hsc:=zbN hF.big hS hsu hl
 have hlen:=hsc.len
 have hb:=hsc.box
 have hfl:=first_len hF hS hl hsu
 have hpre:∀ i,i≤s.state.length→(∀ c∈nzP (s.state.take i),0≤c∧c<(s.state.length:Int))∧(Lib.join ((nzP (s.state.take i)).map (wordC m s.state)) [44,32]).length≤26000*30:=λi hi=>by
  have hm:∀ c∈nzP (s.state.take i),0≤c∧c<(s.state.length:Int):=λc hc=>by
   have:=nz_mem hc
   rw [yR] at this
   omega
  refine ⟨hm,?_⟩
  have:=join_len [44,32] 25100 ((nzP (s.state.take i)).map (wordC m s.state)) λx hx=>by
   obtain ⟨c,hc,rfl⟩:=yU.1 hx
   exact (zfK hF hS hl hsu (hm c hc).1 (hm c hc).2).1
  have h2:=nz_len (s.state.take i)
  rw [yS] at this
  rw [yR] at h2
  have h3:(25100+([44,32]:List UInt8).length)*(nzP (s.state.take i)).length≤25102*30:=yN (by simp) (by omega)
  omega
 have hsnoc:∀ i (hi:i<s.state.length),nzP (s.state.take (i+1))=nzP (s.state.take i)++(if s.state[i]≠0 then [(i:Int)] else []):=λi hi=>by
  unfold nzP
  rw [List.length_take_of_le (by omega),List.length_take_of_le (by omega),uJ,List.flatMap_append]
  congr 1
  ·have:∀ (l:List Nat),(∀ j∈l,j<i)→(l.flatMap λj=>if (s.state.take (i+1)).getD j 0≠0 then [(j:Int)] else [])=l.flatMap λj=>if (s.state.take i).getD j 0≠0 then [(j:Int)] else []:=by
    intro l
    induction l with
    | nil=>intro _;rfl
    | cons y l ih=>
     intro h
     have hy:=h y (by simp)
     have e:(s.state.take (i+1)).getD y 0=(s.state.take i).getD y 0:=by
      simp only [y9]
      rw [List.getElem?_take_of_lt (by omega),List.getElem?_take_of_lt hy]
     rw [ug,ug,ih λj hj=>h j (by simp [hj]),e]
   exact this _ λj hj=>by simpa using hj
  ·have e:(s.state.take (i+1)).getD i 0=s.state[i]:=by
    simp only [y9]
    rw [List.getElem?_take_of_lt (by omega),yA hi,yf]
   simp only [ug,List.flatMap_nil,ur,e]
 have:=zD (body:=zaa.l1 n m s) (len:=s.state.length) (st:=λi=>(Lib.join ((nzP (s.state.take i)).map (wordC m s.state)) [44,32],(i:Int))) (g:=λ_=>some (tellW m s,0)) (λrec i hi hr=>?_) (λrec=>?_) n 0 (yp _) (by omega)
 ·simpa [nzP,Lib.join_nil] using this
 ·obtain ⟨k1,k2⟩:=hpre i (by omega)
  rw [hsnoc i hi] at hr
  simp only [zaa.l1,zo hi,if_true,jn,za hi,ya,zc (i:=i) (by omega)]
  by_cases h0:s.state[i]=0
  ·rw [if_neg (by simp [h0]),ur] at hr
   rw [if_neg (by simp [h0])]
   exact hr
  ·rw [if_pos h0,ul,yM,List.map_nil,join_snoc] at hr
   obtain ⟨w1,w2,w3,w4⟩:=zfK hF hS hl hsu (c:=(i:Int)) (by omega) (by omega)
   have hgd:s.state.getD (i:Int).toNat 0=s.state[i]:=by simp [y9,hi]
   have hcl:=ze8 hsc.valid.lay (c:=(i:Int)) (by omega) (by omega)
   rw [hgd] at w3 w4
   have hil:=zbK (x:=s.state[i]) (by omega) w4
   have hcell:=rCellV hF hS hl hsu (c:=(i:Int)) (by omega) (by omega)
   have hword:wordC m s.state (i:Int)=cellW m (i:Int)++([32,61,32]++itoaL s.state[i]):=by unfold wordC;rw [hgd]
   rw [if_pos (by simp [h0])]
   by_cases he:nzP (s.state.take i)=[]
   ·rw [he] at hr k2 ⊢
    simp only [List.map_nil,if_true,Lib.join_nil] at hr k2 ⊢
    rw [if_neg (by simp),hcell,ya,zk (by simp;omega),ya,zk (by simp;omega),ya,zbT (by omega) w3 w4,ya,zk (by simp;omega),ya,← hr,hword]
    simp
   ·have hne:Lib.join ((nzP (s.state.take i)).map (wordC m s.state)) [44,32]≠[]:=by
     obtain ⟨c,l,hcl2⟩:=List.exists_cons_of_ne_nil he
     have:=(zfK hF hS hl hsu (k1 c (by rw [hcl2];simp)).1 (k1 c (by rw [hcl2];simp)).2).2.1
     rw [hcl2,yM,Lib.join_cons]
     simp [this]
    rw [if_neg (by simpa using he)] at hr
    rw [if_pos (by simp [hne]),zk (by simp;omega),ya,hcell,ya,zk (by simp;omega),ya,zk (by simp;omega),ya,zbT (by omega) w3 w4,ya,zk (by simp;omega),ya,← hr,hword]
    simp
 ·have hfull:s.state.take s.state.length=s.state:=List.take_length
  simp only [zaa.l1,zap,ye,if_false,jn,hfull]
  have key:=λw hw=>rLast hF hS hl hsu w hw
  unfold tellW
  by_cases he:nzP s.state=[]
  ·have e:zeL m s.state=zeroW:=by unfold zeL;rw [if_pos he]
   rw [if_pos (by rw [he];rfl),e]
   exact key _ (by decide)
  ·have e:zeL m s.state=Lib.join ((nzP s.state).map (wordC m s.state)) [44,32]:=by unfold zeL;rw [if_neg he]
   have hne:zeL m s.state≠[]:=by
    obtain ⟨c,l,hcl2⟩:=List.exists_cons_of_ne_nil he
    have hk:=nz_mem (s:=s.state) (c:=c) (by rw [hcl2];simp)
    have:=(zfK hF hS hl hsu hk.1 hk.2).2.1
    rw [e,hcl2,yM,Lib.join_cons]
    simp [this]
   rw [← e,if_neg (by simpa using hne)]
   exact key _ (by omega)
end
theorem EqualS_eq {n:Nat} {x y:List (List UInt8)} (hl:x.length<1000000) (hn:1000000≤n):zb n x y=some (decide (x=y)):=by
 unfold zb
 by_cases hlen:x.length=y.length
 ·rw [if_neg (by simp [hlen])]
  have:=zD (body:=zb.l1 n x y) (len:=x.length) (st:=λi=>(i:Int)) (g:=λi=>some (decide (x.drop i=y.drop i))) (λrec i hi hr=>?_) (λrec=>?_) n 0 (yp _) (by omega)
  ·simpa using this
  ·have hi2:i<y.length:=by omega
   rw [zn hi,zn hi2]
   simp only [zb.l1,zo hi,if_true,za hi,za hi2,ya,zc (i:=i) (by omega),List.cons.injEq]
   by_cases e:x[i]=y[i]
   ·rw [if_neg (by simp [e]),hr]
    congr 1
    exact decide_eq_decide.2 (by simp [e])
   ·rw [if_pos (by simp [e]),decide_eq_false (by simp [e])]
  ·have:y.drop x.length=[]:=List.drop_eq_nil_of_le (by omega)
   simp [zb.l1,this]
 ·rw [if_pos (by simp;omega),decide_eq_false (by intro e;exact hlen (by rw [e]))]
theorem Tells_law {m:Model} {s:Scenario}:zcW 18446744073709551616 m s=some true:=by
 unfold zcW
 simp only [awake_spec,ya,uf,ye,if_false,ref13_Few_eq big1]
 cases hf:fewP m with
 | false=>simp [grd]
 | true=>
  have hS:=fewP_small hf
  rw [small24_eq big1]
  simp only [uf,ut,yj,grd,if_true,yf]
  by_cases hsm:(decide (s.state.length≤150)&&s.state.all λv=>decide (-1099511627776≤v)&&decide (v≤1099511627776))=true
  ·have e1:=hsm
   rw [yc] at hsm
   have hl:=low_of hsm.2
   rw [if_neg (by rw [e1];simp)]
   unfold zaO zaa
   rw [sValid_eq fuel_N hS hl (rows:=[]) (by simp),ya,rValid_eq fuel_N hS hl (rows:=[]) (by simp),ya]
   cases hv:validQ m s [] with
   | false=>
    simp only [ux,if_true,ya]
    rw [EqualS_eq (by simp) big1];simp
   | true=>
    unfold validQ at hv
    simp only [yc] at hv
    simp only [uf,ye,if_false]
    rw [sTell_in fuel_N hS hl hv.1,ya,rTell_in fuel_N hS hl hv.1,ya,EqualS_eq (by simp [tellW]) big1];simp
  ·simp only [yH] at hsm
   rw [hsm];simp
theorem closed17:joinedFacts Tryz.pinned.checked.prog 5 Tryz.f5 (OpenSpec.ofChange Rows.scenarioTellsSpec).bare Rows.scenarioTellsRow=true:=by
 unfold joinedFacts
 simp only [yc]
 repeat' apply And.intro
 all_goals as_aux_lemma=>kernel_rfl
section
open Go.ChangeShapes Go.WideShapes Go.ChangeAt Go.RowKit
theorem own:ownKnob Tryz.prog.godebug=none:=by kernel_rfl
theorem laidOut:laidOutB Tryz.prog=true:=by kernel_rfl
set_option maxRecDepth 100000 in
theorem contract17 (H:Type) (enc:TypeId×Value→H) (W:World) (base:Nat) (args:Array Value) (ds gs:List (DataW H)) (before:List MemPlace)
  (hval:∀ (j:Nat) t v,Tryz.f5.params[j]? = some t→args[j]? = some v→Value.okWide Tryz.prog W .any base t v)
  (hW:DataW.Whole enc Tryz.prog Tryz.f5.params.toList Rows.scenarioTellsSpec.vars false W args.toList ds gs before) (hL:laidMetH Tryz.prog Rows.scenarioTellsRow.laid W) (hS:W.ShapedOpen Tryz.prog) :
  Calls Tryz.prog 5 args W λe W'=>∃ v,e = .returned v∧Rows.scenarioTellsSpec.post enc Tryz.prog Tryz.f5 false true false false W args v W':=by
 have hW':=hW
 obtain ⟨p,q,hA0,hV,rfl,hfz,hnd⟩:=hW
 have hA:DataW.TrodAll enc Tryz.prog W 0 (λ_=>true) true Tryz.f5.params.toList args.toList ds p:=hA0
 rw [Tryz.params5] at hA hval
 obtain ⟨v0,vs0,d0,ds0,p0,q0,hargs,rfl,rfl,h0,r0⟩:=trodAll_cons hA
 obtain ⟨v1,vs1,d1,ds1,p1,q1,rfl,rfl,rfl,h1,r1⟩:=trodAll_cons r0
 obtain ⟨rfl,rfl,rfl⟩:=trodAll_nil r1
 obtain rfl:args = #[v0,v1]:=by cases args;simp_all
 obtain ⟨rfl,rfl⟩:=trodVars_none hV
 obtain ⟨a0,k0⟩:=dModel.of_arg (hval 0 _ v0 rfl rfl) h0
 obtain ⟨a1,k1⟩:=dScen.of_arg (hval 1 _ v1 rfl rfl) h1
 obtain ⟨E,hE⟩:=glob_ok hL hS
 have hrun:=(@zfY E _ a0 a1 true Tells_law).run Noneof W #[v0,v1] (λ_ h=>h.elim) hE (by
  simp only [D.reps]
  exact ⟨v0,_,rfl,k0,v1,_,rfl,k1,rfl⟩)
 refine hrun.mono λe W' ⟨u,he,hf,hu⟩=>?_
 simp only [D.rep] at hu
 subst hu
 subst he
 refine ⟨_,rfl,post_kept hW' rfl rfl rfl laidOut (λt ht=>?_) hf (λ_ _ _=>trodAll_cons_mk (shut_bool Tryz.underlying4 _) trodAll_mk0)⟩
 rw [Tryz.params5] at ht
 have hall:([30,36].all λt=>Tryz.prog.readableRec t&&decide (t<Tryz.prog.types.size))=true:=by kernel_rfl
 have:=yo.1 hall t (by simpa using ht)
 simpa using this
theorem reads17 (os:Os) {H:Type} (enc:TypeId×Value→H):∃ places,DataW.whole enc Tryz.prog ((World.laidAll Tryz.prog os Rows.scenarioTellsRow.laid).forCall (λ_ _=>0) ⟨#[],#[.agg #[.slice none 0 0,.slice none 0 0,.slice none 0 0,.slice none 0 0,.slice none 0 0,.slice none 0 0,.slice none 0 0],.agg #[.int .i64 0,.int .i64 0,.bool false,.int .i64 0,.slice none 0 0]],[]⟩).memory Tryz.f5.params.toList Rows.scenarioTellsSpec.vars false
  (#[.agg #[.slice none 0 0,.slice none 0 0,.slice none 0 0,.slice none 0 0,.slice none 0 0,.slice none 0 0,.slice none 0 0],.agg #[.int .i64 0,.int .i64 0,.bool false,.int .i64 0,.slice none 0 0]]:Array Value).toList 8 =
  some ([.agg [.nil,.nil,.nil,.nil,.nil,.nil,.nil],.agg [.agg [.lit (.int .i64 0),.lit (.int .i64 0),.agg [.lit (.bool false),.lit (.int .i64 0)]],.nil]],[],places):=
 ⟨[],by kernel_rfl⟩
set_option maxRecDepth 100000 in
theorem lifted17 (os:Os) (started:os.Started) (H:Type) (enc:TypeId×Value→H) (F:Stop.Interp) :
  ReturnsInHanded {} Tryz.checked os 5 .any ((OpenSpec.ofChange Rows.scenarioTellsSpec).preRow enc Tryz.prog Tryz.f5 Rows.scenarioTellsRow.domain false Rows.scenarioTellsRow.laid) (((OpenSpec.ofChange Rows.scenarioTellsSpec).at F).post enc Tryz.prog Tryz.f5 false true false false):=by
 obtain ⟨places,hx⟩:=reads17 os enc
 refine returnsInHanded_of_row (C:=Tryz.checked) (s:=OpenSpec.ofChange Rows.scenarioTellsSpec) own started (by kernel_rfl) Tryz.func5
  (witness_row_atRef (enc:=enc) (C:=Tryz.checked) false (World.laidAll Tryz.prog os Rows.scenarioTellsRow.laid) _ (World.laidAll_os _ _ _) (by kernel_rfl) (by kernel_rfl) (by kernel_rfl)
   (OpenSpec.preRow_of_cond 8 hx (by kernel_rfl) (λk hk=>by cases hk) (by kernel_rfl) (laidMet_laidAll _ (by kernel_rfl) (by kernel_rfl)))) ?_
 intro W base args ds gs before hval hW _ _ _ hL hS _
 exact contract17 H enc W base args ds gs before hval hW hL hS
theorem said17:Rows.ScenarioTellsSaid:=
 OpenClaim.holds_of_cond 5 Tryz.f5 rfl rfl rfl rfl rfl rfl rfl ⟨rfl,rfl,rfl,rfl,rfl⟩ rfl rfl rfl rfl rfl (by kernel_rfl) Tryz.func5 closed17
  (of_decide_eq_true (by kernel_rfl)) (by unfold Func.isWrapper;first | (rw [if_pos (by decide +kernel)];kernel_rfl) | (rw [if_neg (by decide +kernel)];exact ⟨rfl,rfl⟩))
  (λos started H enc _ F=>by rw [OpenClaim.pre_eq_preRow];exact lifted17 os started H enc F)
theorem plain17 (f:FuncId) (fn:Func) (hf:Tryz.pinned.checked.prog.funcNamed Rows.scenarioTellsRow.func=some f) (hfn:Tryz.pinned.checked.prog.funcs[f]? = some fn) :
  true=Tryz.pinned.checked.prog.looks []∧∀ (j:Nat) t,fn.params[j]? = some t→Tryz.pinned.checked.prog.wantsStandIn t=false:=by
 obtain rfl:f=5:=Option.some.inj ((show Tryz.prog.funcNamed Rows.scenarioTellsRow.func=some 5 by kernel_rfl).symm.trans hf) |>.symm
 obtain rfl:fn=Tryz.f5:=(Option.some.inj (Tryz.func5.symm.trans hfn)).symm
 refine ⟨by kernel_rfl,λj t ht=>?_⟩
 rw [Tryz.params5] at ht
 have hall:([30,36].all λu=>!Tryz.prog.wantsStandIn u)=true:=by kernel_rfl
 have:=yo.1 hall t (by simpa using Array.mem_of_getElem? ht)
 exact (show Tryz.prog.wantsStandIn t=false by simpa using this)
theorem scenarioTells_holds:Rows.ScenarioTellsCardSaid:=
 Claim7.holds_tied_plain_at .later [] _ _ _ _ said17 (λ_ h=>by cases h) (by kernel_rfl) (λ_ h=>by cases h) scenarioTells_row_tie rfl ⟨rfl,rfl⟩ (by kernel_rfl) rfl plain17 (by kernel_rfl)
end
end Go.Proofs.YtbnhmfnagdgcmaaGreatDoor
