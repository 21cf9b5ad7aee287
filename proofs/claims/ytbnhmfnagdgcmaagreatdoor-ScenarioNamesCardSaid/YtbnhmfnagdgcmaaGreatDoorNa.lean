/- The law holds for every input. No condition. -/
import Derived.Test.YtbnhmfnagdgcmaaGreatDoorNa04
import Derived.Lib.AtoiTie
import Derived.Test.YtbnhmfnagdgcmaaGreatDoorCards
import Derived.Test.YtbnhmfnagdgcmaaGreatDoorTie
import Derived.JoinedCond
import Derived.Deep.DeepWitnessRowRef
import Derived.Lay
import Derived.ProofKit
set_option linter.unusedVariables false
set_option linter.unusedSectionVars false
set_option linter.unusedSimpArgs false
set_option maxHeartbeats 4000000
namespace Go.Proofs.YtbnhmfnagdgcmaaGreatDoor
open Go Go.RowKit
abbrev uf:=@_root_.List.length_replicate
abbrev ul:=@_root_.Nat.mul_le_mul
abbrev uq:=@_root_.Bool.not_false
abbrev uz:=@_root_.Bool.true_or
abbrev uC:=@_root_.bne_self_eq_false
def kwL:List (List UInt8):=[[115,111,114,116],[114,101,108,97,116,105,111,110],[99,111,117,110,116,101,114],[115,101,116],[114,101,103,105,115,116,101,114],[105,110,118,97,114,105,97,110,116],[111,112,101,114,97,116,105,111,110],[107,101,121],[114,101,102,101,114,101,110,99,101],[116,111],[99,111,117,110,116],[97,99,121,99,108,105,99],[97,108,108],[115,117,109],[105,110],[97,100,100,119,105,110,115],[114,101,109,111,118,101,119,105,110,115],[108,97,115,116],[109,117,108,116,105],[104,105,100,101],[111,114,100,101,114,101,100],[114,101,113,117,105,114,101],[104,111,108,100],[105,110,115,101,114,116],[100,101,108,101,116,101],[97,100,100],[102,114,111,109],[112,117,116],[100,114,111,112],[97,115,115,105,103,110],[102,111,114],[119,104,101,114,101],[97,110,100],[111,114],[110,111,116]]
structure Fuel (n:Nat):Prop where
 big:4294967296≤n
 kw:∃ m,lexer_keywords n=some m∧SetIs m kwL
def nameP (w:List UInt8):Bool:=decide (w.length≤16)&&(wordP w&&!decide (w∈kwL))
theorem lexer_Name_eq {n} {w:List UInt8} (hF:Fuel n):lexer_Name n w=some (nameP w):=by
 have hn:=hF.big;unfold lexer_Name nameP;by_cases h16:w.length≤16
 ·have hd:decide ((w.length:Int)≤16)=true:=by simp;omega
  simp only [hd,h16,decide_true,yA,ub,uj];unfold lexer_Kind;obtain ⟨m,hm,hs⟩:=hF.kw;cases hw:w with
  | nil=>simp [grd,wordP]
  | cons b l=>
   rw [← hw];have h0:0<w.length:=by rw [hw];simp
   rw [if_neg (by simp;exact ⟨by rw [hw];simp,by omega⟩),hm,yb];obtain ⟨t,ht,hiff⟩:=lexer_first (n:=n) (w:=w) (kw:=m) (by omega) (by omega) h0;rw [hs.get] at hiff;simp only [ht,yb];by_cases hc:t.at_=0∧t.end_=(w.length:Int)∧t.kind=1
   ·have:=hiff.1 hc;rw [if_neg (by simp [hc.1,hc.2.1])];simp only [yE] at this;simp [grd,hc.2.2,this.1,this.2]
   ·have hr:(wordP w&&!decide (w∈kwL))=false:=by
     cases hx:(wordP w&&!decide (w∈kwL)) with
     | false=>rfl
     | true=>
      simp only [yc,yy,yE] at hx;exact absurd (hiff.2 ⟨hx.1,by simp [hx.2]⟩) hc
    rw [hr];split
    ·simp [grd]
    ·rename_i hne;simp only [yw,bne_iff_ne,ne_eq,not_or,Decidable.not_not] at hne;have:t.kind≠1:=λe=>hc ⟨hne.1,hne.2,e⟩
     simp [grd,this]
 ·have hd:decide ((w.length:Int)≤16)=false:=by simp;omega
  simp [hd,h16,grd]
theorem ref_comment {n} {t:List UInt8} {rec x} (hx:x≤t.length) (hl:t.length<1000000) (hn:1000000≤n) :
  ∃ y:Nat,x≤y∧y≤t.length∧loopF (ref02_skip.l2 n t rec) n x=rec (y:Int)∧∀ h:x<t.length,(t[x].toNat:Nat)=35→x<y:=by
 have:=loopF_M (body:=ref02_skip.l2 n t rec) (λs:Int=>t.length - s.toNat) (λs=>∃ i:Nat,s=i∧i≤t.length) (λs o=>∃ y:Nat,s.toNat≤y∧y≤t.length∧o=rec (y:Int)∧∀ h:s.toNat<t.length,(t[s.toNat].toNat:Nat)=35→s.toNat<y) (λr s hI hr=>by
  obtain ⟨i,rfl,hi⟩:=hI;by_cases hlt:i<t.length
  ·simp only [ref02_skip.l2,lt_len hlt,sidx_nat hlt,yj,yx,grd,if_true,yh,yA,add64_1 (i:=i) (by omega),yz];by_cases h10:((((t[i].toNat:Nat):Int) != 10))=true
   ·rw [if_pos h10];obtain ⟨y,y1,y2,y3,-⟩:=hr ((i+1:Nat):Int) ⟨_,rfl,by omega⟩ (by simp only [yz];omega);simp only [yz] at y1;exact ⟨y,by omega,y2,y3,λ_ _=>by omega⟩
   ·rw [if_neg h10];refine ⟨i,ym _,hi,rfl,λ_ h=>?_⟩;rw [h] at h10;exact absurd h10 (by decide)
  ·have:i=t.length:=by omega
   subst this;exact ⟨t.length,by simp,ym _,by simp [ref02_skip.l2,grd],λh=>by simp at h⟩) n x ⟨x,rfl,hx⟩ (by simp;omega)
 simpa using this
theorem ref_skip_ok {n} {t:List UInt8} {a} (ha:a≤t.length) (hl:t.length<1000000) (hn:1000000≤n) :
  ∃ k:Nat,ref02_skip n t a=some (k:Int)∧a≤k∧k≤t.length∧(∀ h:k<t.length,blackP (t[k].toNat:Nat)=true)∧(∀ h:a<t.length,blackP (t[a].toNat:Nat)=true→k=a):=by
 have:=loopF_M (body:=ref02_skip.l1 n t) (λs:Int=>t.length - s.toNat) (λs=>∃ i:Nat,s=i∧i≤t.length)
  (λs o=>∃ k:Nat,o=some (k:Int)∧s.toNat≤k∧k≤t.length∧(∀ h:k<t.length,blackP (t[k].toNat:Nat)=true)∧(∀ h:s.toNat<t.length,blackP (t[s.toNat].toNat:Nat)=true→k=s.toNat)) (λr s hI hr=>by
  obtain ⟨i,rfl,hi⟩:=hI;by_cases hlt:i<t.length
  ·simp only [ref02_skip.l1,lt_len hlt,sidx_nat hlt,ref02_white,yj,yx,grd,if_true,yh,yA,yb,add64_1 (i:=i) (by omega),yz];by_cases hb:blackP (t[i].toNat:Nat)=true
   ·rw [if_neg (by
     simp only [blackP,yy,ud,y8] at hb;simp only [yw,beq_iff_eq];omega)]
    exact ⟨i,rfl,ym _,hi,λ_=>hb,λ_ _=>rfl⟩
   ·rw [if_pos (by
     simp only [blackP,yy,ud,y8] at hb;simp only [yw,beq_iff_eq];omega)]
    by_cases hh:(t[i].toNat:Nat)=35
    ·rw [if_pos (by simp [hh])];obtain ⟨y,y1,y2,y3,y4⟩:=ref_comment (n:=n) (rec:=r) hi hl hn;have y5:=y4 hlt hh;rw [y3];obtain ⟨k,e,k1,k2,k3,-⟩:=hr (y:Int) ⟨y,rfl,y2⟩ (by simp only [yz];omega);simp only [yz] at k1;exact ⟨k,e,by omega,k2,k3,λ_ h=>absurd h hb⟩
    ·rw [if_neg (by simp;omega)];obtain ⟨k,e,k1,k2,k3,-⟩:=hr ((i+1:Nat):Int) ⟨_,rfl,by omega⟩ (by simp only [yz];omega);simp only [yz] at k1;exact ⟨k,e,by omega,k2,k3,λ_ h=>absurd h hb⟩
  ·have:i=t.length:=by omega
   subst this;exact ⟨t.length,by simp [ref02_skip.l1,grd],by simp,ym _,λh=>absurd h (by omega),λh=>by simp at h⟩) n a ⟨a,rfl,ha⟩ (by simp;omega)
 simpa [ref02_skip] using this
theorem ref_symbol_ok {n} {t:List UInt8} {a} (ha:a≤t.length) (hl:t.length<1000000) (hn:1000000≤n):∃ v:Nat,ref02_symbol n t a=some (v:Int)∧a+v≤t.length:=by
 unfold ref02_symbol;simp only [ref02_Symbols,yb];generalize hL:([[61,61],[33,61],[60,61],[62,61],[46,46],[60],[62],[61],[43],[45],[42],[40],[41],[123],[125],[44],[58],[59]]:List (List UInt8))=L;have hLl:L.length=18:=by rw [← hL];rfl
 have hL2:∀ x∈L,x.length≤2:=by rw [← hL];decide
 refine loopF_M (body:=ref02_symbol.l1 n t a L) (λs:Int=>18 - s.toNat) (λs=>∃ i:Nat,s=i∧i≤18) (λs o=>∃ v:Nat,o=some (v:Int)∧a+v≤t.length) (λr s hI hr=>?_) n 0 ⟨0,rfl,by omega⟩ (by simp;omega);obtain ⟨i,rfl,hi⟩:=hI;by_cases hlt:i<L.length
 ·have h2:=hL2 _ (yt hlt);simp only [ref02_symbol.l1,lt_len hlt,if_true,idx_nat hlt,yb,yj,yh,yx,add64_1 (i:=i) (by omega),add64_nat (show a+L[i].length<9223372036854775808 by omega)];by_cases hle:a+L[i].length≤t.length
  ·simp only [cut_nat (l:=t) (a:=a) (b:=a+L[i].length) (by omega) hle,yj,yx,grd,if_true];split
   ·exact ⟨_,rfl,hle⟩
   ·exact hr _ ⟨i+1,rfl,by omega⟩ (by simp only [yz];omega)
  ·have hd:decide (((a+L[i].length:Nat):Int)≤(t.length:Int))=false:=by simp;omega
   simp only [hd,uq,uz,grd,if_true,yZ,yk,if_false];exact hr _ ⟨i+1,rfl,by omega⟩ (by simp only [yz];omega)
 ·have:i=L.length:=by omega
  subst this;exact ⟨0,by simp [ref02_symbol.l1],by omega⟩
theorem ref_Has_eq {n} {L:List (List UInt8)} {w:List UInt8} (hl:L.length<1000000) (hn:1000000≤n):ref02_Has n L w=some (decide (w∈L)):=by
 have:=loopF_g (body:=ref02_Has.l1 n L w) (len:=L.length) (st:=λi=>(i:Int)) (g:=λi=>some (decide (w∈L.drop i))) (λrec i hi hr=>?_) (λrec=>?_) n 0 (yC _) (by omega)
 ·simpa [ref02_Has] using this
 ·simp only [ref02_Has.l1,lt_len hi,if_true,idx_nat hi,yb,add64_1 (i:=i) (by omega),hr];rw [drop_cons hi];by_cases h:L[i]=w
  ·rw [if_pos (by simpa using h)];simp only [yD,h,true_or,decide_true]
  ·have h':¬ w=L[i]:=λe=>h e.symm
   rw [if_neg (by simpa using h)];simp only [yD,h',false_or]
 ·simp [ref02_Has.l1]
theorem ref_keywords_eq {n}:ref02_Keywords n=some kwL:=rfl
theorem ref_token_ok {n} {t:List UInt8} {a} (ha:a<t.length) (hb:blackP (t[a].toNat:Nat)=true) (hl:t.length<1000000) (hn:1000000≤n) :
  ∃ (k:Int) (e:Nat),ref02_token n t a=some (k,(e:Int))∧a<e∧e≤t.length∧(letterP (t[a].toNat:Nat)=true→e=a+runP partP (t.drop a))∧(k=1↔letterP (t[a].toNat:Nat)=true∧(t.drop a).take (e - a)∉kwL):=by
 unfold ref02_token;simp only [sidx_nat ha,yb,ref_letter_eq,ref_digit_eq];by_cases hlet:letterP ((t[a].toNat:Nat):Int)=true
 ·rw [if_pos hlet];have hlp:letterP (t[a].toNat:Nat)=true:=hlet;have hrun1:1≤runP partP (t.drop a):=by
   rw [drop_cons ha,runP,if_pos (by simp [partP,hlp])];omega
  have hle:=runP_le partP (t.drop a);simp only [yY] at hle;have:=loopF_I (body:=ref02_token.l1 n t a) (len:=t.length) (st:=λ(_:Unit) i=>(i:Int)) (g:=λi _=>some (if decide ((t.drop a).take (i+runP partP (t.drop i) - a)∈kwL)=true then (2,((i+runP partP (t.drop i):Nat):Int)) else (1,((i+runP partP (t.drop i):Nat):Int)))) (λi _=>a≤i) (λrec i _ hi hai hr=>?_) (λrec _ hai=>?_) n a () (by omega) (by omega) (ym _)
  ·rw [this];refine ⟨if decide ((t.drop a).take (a+runP partP (t.drop a) - a)∈kwL)=true then 2 else 1,a+runP partP (t.drop a),?_,by omega,by omega,λ_=>rfl,?_⟩
   ·split <;> rfl
   ·rw [hlp];by_cases hk:(t.drop a).take (a+runP partP (t.drop a) - a)∈kwL
    ·simp [hk]
    ·simp [hk]
  ·have hr:=hr () (by omega);have hle':=runP_le partP (t.drop i);simp only [yY] at hle';simp only [ref02_token.l1,lt_len hi,sidx_nat hi,ref_letter_eq,ref_digit_eq,yj,yx,grd,if_true,yh,yA,add64_1 (i:=i) (by omega),hr];rw [drop_cons hi,runP];have hpe:(letterP ((t[i].toNat:Nat):Int)||digitP ((t[i].toNat:Nat):Int)||((t[i].toNat:Nat):Int)==95)=partP ((t[i].toNat:Nat):Int):=rfl;rw [hpe];by_cases hp:partP (t[i].toNat:Nat)=true
   ·rw [if_pos hp,if_pos hp,show i+(runP partP (t.drop (i+1))+1)=i+1+runP partP (t.drop (i+1)) by omega]
   ·rw [if_neg hp,if_neg hp];simp only [ur,ref_keywords_eq,yb,cut_nat hai (Nat.le_of_lt hi)];rw [ref_Has_eq (by decide) hn,yb];cases decide ((t.drop a).take (i - a)∈kwL) <;> rfl
  ·simp only [ref02_token.l1,ge_len,uq,uz,grd,if_true,yZ,yk,if_false,ref_keywords_eq,yb,cut_nat hai (ym _)];rw [ref_Has_eq (by decide) hn,yb];simp only [List.drop_length,runP,ur];cases decide ((t.drop a).take (t.length - a)∈kwL) <;> rfl
 ·rw [if_neg hlet];have hlp:letterP (t[a].toNat:Nat)=false:=by simpa using hlet
  simp only [hlp,yk,false_implies,false_and,iff_false,true_and];by_cases hdig:digitP ((t[a].toNat:Nat):Int)=true
  ·rw [if_pos hdig];have:=loopF_M (body:=ref02_token.l2 n t) (λs:Int=>t.length - s.toNat) (λs=>∃ i:Nat,s=i∧i≤t.length) (λs o=>∃ e:Nat,o=some (3,(e:Int))∧s.toNat≤e∧e≤t.length∧∀ h:s.toNat<t.length,digitP (t[s.toNat].toNat:Nat)=true→s.toNat<e) (λr s hI hr=>by
    obtain ⟨i,rfl,hi⟩:=hI;by_cases hlt:i<t.length
    ·simp only [ref02_token.l2,lt_len hlt,sidx_nat hlt,ref_digit_eq,yj,yx,grd,if_true,yh,yA,add64_1 (i:=i) (by omega),yz];split
     ·obtain ⟨e,e1,e2,e3,-⟩:=hr ((i+1:Nat):Int) ⟨_,rfl,by omega⟩ (by simp only [yz];omega);simp only [yz] at e2;exact ⟨e,e1,by omega,e3,λ_ _=>by omega⟩
     ·rename_i hno;exact ⟨i,rfl,ym _,hi,λ_ h=>absurd h hno⟩
    ·have:i=t.length:=by omega
     subst this;exact ⟨t.length,by simp [ref02_token.l2,grd],by simp,ym _,λh=>by simp at h⟩) n a ⟨a,rfl,Nat.le_of_lt ha⟩ (by simp;omega)
   obtain ⟨e,e1,-,e3,e4⟩:=this;exact ⟨3,e,e1,e4 ha hdig,e3,by decide⟩
  ·rw [if_neg hdig];obtain ⟨v,hv,hv2⟩:=ref_symbol_ok (n:=n) (t:=t) (a:=a) (Nat.le_of_lt ha) hl hn;rw [hv,yb];by_cases hv0:0<v
   ·rw [if_pos (by simpa using hv0),add64_nat (by omega)];exact ⟨4,a+v,rfl,by omega,hv2,by decide⟩
   ·have hv0:v=0:=by omega
    subst hv0;rw [if_neg (by simp)];have:=loopF_M (body:=ref02_token.l3 n t) (λs:Int=>t.length - s.toNat) (λs=>∃ i:Nat,s=i∧i≤t.length) (λs o=>∃ e:Nat,o=some (5,(e:Int))∧s.toNat≤e∧e≤t.length∧(s=a→a<e)) (λr s hI hr=>by
     obtain ⟨i,rfl,hi⟩:=hI;by_cases hlt:i<t.length
     ·obtain ⟨u,hu,-⟩:=ref_symbol_ok (n:=n) (t:=t) (a:=i) hi hl hn;simp only [ref02_token.l3,lt_len hlt,sidx_nat hlt,ref02_white,ref_letter_eq,ref_digit_eq,hu,yj,yx,grd,if_true,yh,yA,add64_1 (i:=i) (by omega),yz];split
      ·obtain ⟨e,e1,e2,e3,-⟩:=hr ((i+1:Nat):Int) ⟨_,rfl,by omega⟩ (by simp only [yz];omega);simp only [yz] at e2;exact ⟨e,e1,by omega,e3,λh=>by omega⟩
      ·rename_i hno;refine ⟨i,rfl,ym _,hi,λh=>?_⟩;have hia:i=a:=by omega
       subst hia;exfalso;apply hno;rw [hv] at hu;simp only [yf,Int.natCast_inj] at hu;subst hu;simp only [blackP,yy,ud,y8] at hb;simp only [yc,bne_iff_ne,ne_eq,yy,ud,y8];simp only [yF] at hlet hdig;exact ⟨⟨⟨⟨by omega,by omega⟩,hlet⟩,hdig⟩,by simp⟩
     ·have:i=t.length:=by omega
      subst this;exact ⟨t.length,by simp [ref02_token.l3,grd],by simp,ym _,λh=>by omega⟩) n a ⟨a,rfl,Nat.le_of_lt ha⟩ (by simp;omega)
    obtain ⟨e,e1,-,e3,e4⟩:=this;exact ⟨5,e,e1,e4 rfl,e3,by decide⟩
theorem app_some {α:Type} {b:Nat} {xs ys:List α} (h:(xs.length+ys.length)*b≤140737488355328):Go.Proofs.YtbnhmfnagdgcmaaGreatDoor.app b xs ys=some (xs++ys):=by
 unfold Go.Proofs.YtbnhmfnagdgcmaaGreatDoor.app;rw [if_pos h]
theorem ref_Scan_ok {n:Nat} {t:List UInt8} (hl:t.length<1000000) (hn:1000000≤n):∀ (m:Nat) (b:List Token) (a:Nat),a≤t.length→b.length≤a→t.length - a<m→∃ r,r≠[]∧loopF (ref02_Scan.l1 n t) m (b,(a:Int))=some (b++r,0)
 | 0,_,_,_,_,h=>by omega
 | m+1,b,a,ha,hb,h=>by
  obtain ⟨k,e,k1,k2,k3,-⟩:=ref_skip_ok (n:=n) ha hl hn;simp only [loopF,ref02_Scan.l1,e,yb];by_cases hlt:k<t.length
  ·obtain ⟨q,z,hz,z1,z2,-,-⟩:=ref_token_ok (n:=n) hlt (k3 hlt) hl hn;simp only [lt_len hlt,if_true,hz,yb];rw [app_some (by simp;omega),yb];obtain ⟨r,-,hr⟩:=ref_Scan_ok hl hn m (b++[(⟨q,(a:Int),(k:Int),(z:Int)⟩:Token)]) z z2 (by simp;omega) (by omega);rw [hr];exact ⟨_::r,by simp,by rw [yP];rfl⟩
  ·rw [ge_nat (by omega),if_neg (by simp),app_some (by simp;omega),yb];exact ⟨_,by simp,rfl⟩
theorem ref_Kind_ok {n:Nat} {w:List UInt8} (hl:w.length≤4096) (hn:1000000≤n):∃ k,ref02_Kind n w=some k∧(k=1↔wordP w=true∧w∉kwL):=by
 unfold ref02_Kind ref02_Scan;rw [if_neg (by simp;omega),loopF_1 (by omega)];obtain ⟨k,e,-,k2,k3,k4⟩:=ref_skip_ok (n:=n) (t:=w) (a:=0) (by omega) (by omega) hn;simp only [Int.natCast_zero] at e;simp only [ref02_Scan.l1,e,yb];by_cases hlt:k<w.length
 ·obtain ⟨q,z,hz,z1,z2,z3,z4⟩:=ref_token_ok (n:=n) hlt (k3 hlt) (by omega) hn;simp only [lt_len hlt,if_true,hz,yb,y6];rw [app_some (by simp),yb];obtain ⟨r,r0,hr⟩:=ref_Scan_ok (n:=n) (t:=w) (by omega) hn (n - 1) [(⟨q,0,(k:Int),(z:Int)⟩:Token)] z z2 (by simp;omega) (by omega);simp only [y6];rw [hr];have h0:idx ([(⟨q,0,(k:Int),(z:Int)⟩:Token)]++r) 0=some ⟨q,0,(k:Int),(z:Int)⟩:=by simp [idx]
  simp only [yb,h0,yj,yx,grd,if_true,yh];rw [wordP_cons w (by omega)];have hw0:k=0→z=w.length→(letterP (w[k].toNat:Nat)=true∧(w.drop k).take (z - k)∉kwL↔(letterP (w[0].toNat:Nat)&&decide (runP partP w=w.length))=true∧w∉kwL):=by
   intro e1 e2;subst e1;rw [e2];simp only [List.drop_zero,Nat.sub_zero,List.take_length,yc,yd];constructor
   ·rintro ⟨h1,h2⟩;have:=z3 h1;simp only [List.drop_zero] at this;exact ⟨⟨h1,by omega⟩,h2⟩
   ·rintro ⟨⟨h1,-⟩,h2⟩;exact ⟨h1,h2⟩
  by_cases hc:((((((0:Int) != 0)||((([(⟨q,0,(k:Int),(z:Int)⟩:Token)]++r).length:Int) != 2))||((k:Int) != 0))||((z:Int) != (w.length:Int))))=true
  ·rw [if_pos hc];refine ⟨0,rfl,?_⟩;constructor
   ·intro h;exact absurd h (by decide)
   ·rintro ⟨h1,h2⟩;exfalso;simp only [yc,yd] at h1;have hk0:k=0:=k4 (by omega) (letter_black h1.1);subst hk0;have hzw:=z3 h1.1;simp only [List.drop_zero] at hzw;have hzl:z=w.length:=by omega
    subst hzl;rw [loopF_1 (by omega)] at hr;obtain ⟨k',e',p1,p2,-,-⟩:=ref_skip_ok (n:=n) (t:=w) (a:=w.length) (ym _) (by omega) hn;have:k'=w.length:=by omega
    subst this;simp only [ref02_Scan.l1,e',yb,ge_len,yk,if_false] at hr;rw [app_some (by simp),yb] at hr;simp only [yf,yq,and_true,List.append_cancel_left_eq] at hr;subst hr;simp at hc
  ·rw [if_neg hc];refine ⟨q,rfl,?_⟩;simp only [yw,bne_iff_ne,ne_eq,not_or,Decidable.not_not] at hc;rw [z4];exact hw0 (by omega) (by omega)
 ·rw [ge_nat (by omega),if_neg (by simp),app_some (by simp),yb];simp only [y6,yb];refine ⟨0,by simp [grd,idx],?_⟩;constructor
  ·intro h;exact absurd h (by decide)
  ·rintro ⟨h1,-⟩;exfalso;cases w with
   | nil=>simp [wordP] at h1
   | cons x l=>
    simp only [wordP,yc] at h1;have:=k4 (by simp) (letter_black h1.1);simp at hlt;omega
theorem ref02_Name_eq {n} {w:List UInt8} (hl:w.length≤4096) (hn:1000000≤n):ref02_Name n w=some (nameP w):=by
 unfold ref02_Name nameP;obtain ⟨k,hk,hiff⟩:=ref_Kind_ok (n:=n) hl hn;rw [hk,yb];have h16:decide ((w.length:Int)≤16)=decide (w.length≤16):=decide_eq_decide.2 (by omega);rw [h16,Bool.and_comm];congr 2;rw [Bool.eq_iff_iff];simp only [beq_iff_eq,hiff,yc,yy,yE]
theorem SetIs.getS {m:GMap (List UInt8) Bool} {l:List (List UInt8)} (h:SetIs m l) (k:List UInt8):(m.get? k).getD false=decide (k∈l):=(h.get k).trans (decide_eq_decide.2 Iff.rfl)
def distP:List (List UInt8)→List (List UInt8)→Bool
 | _,[]=>true
 | seen,s::l=>nameP s&&!decide (s∈seen)&&distP (seen++[s]) l
theorem model_distinct_eq {n} {l:List (List UInt8)} (hF:Fuel n) (hl:l.length<1000000):model_distinct n l=some (distP [] l):=by
 have hn:=hF.big;have:=loopF_I (body:=model_distinct.l1 n l) (len:=l.length) (st:=λm i=>(m,(i:Int))) (g:=λi _=>some (distP (l.take i) (l.drop i))) (λi m=>SetIs m (l.take i)) (λrec i m hi hm hr=>?_) (λrec m _=>?_) n 0 (GMap.empty) (yC _) (by omega) (by simpa using SetIs.empty)
 ·simpa [model_distinct] using this
 ·simp only [model_distinct.l1,lt_len hi,if_true,idx_nat hi,yb,lexer_Name_eq hF,hm.getS,add64_1 (i:=i) (by omega)];rw [hr _ (by rw [yI hi];exact hm.put _),drop_cons hi,distP,yI hi];cases nameP l[i] <;> cases hd:decide (l[i]∈l.take i) <;> simp
 ·simp [model_distinct.l1,distP]
theorem ref13_distinct_eq {n} {l:List (List UInt8)} (hn:1000000≤n) (hl:l.length<1000000) (hw:∀ w∈l,w.length≤4096):ref13_distinct n l=some (distP [] l):=by
 have:=loopF_g (body:=ref13_distinct.l1 n l) (len:=l.length) (st:=λi=>(i:Int)) (g:=λi=>some (distP (l.take i) (l.drop i))) (λrec i hi hr=>?_) (λrec=>?_) n 0 (yC _) (by omega)
 ·simpa [ref13_distinct] using this
 ·have hc:=cut_nat (l:=l) (a:=0) (b:=i) (by omega) (Nat.le_of_lt hi)
  simp only [Int.natCast_zero,List.drop_zero,Nat.sub_zero] at hc;simp only [ref13_distinct.l1,lt_len hi,if_true,idx_nat hi,yb,ref02_Name_eq (hw _ (yt hi)) hn,hc,yj,yh,yx,grd,ref_Has_eq (show (l.take i).length<1000000 by simp;omega) hn,add64_1 (i:=i) (by omega),hr];rw [drop_cons hi,distP,yI hi];cases nameP l[i] <;> cases hd:decide (l[i]∈l.take i) <;> simp
 ·simp [ref13_distinct.l1,distP]
theorem IndexB_eq {n l v} (hl:l.length<1000000) (hn:1000000≤n):slices_Index_Lbool_bool n l v=some (ixP (λx=>v==x) l 0):=by
 have:=loopF_g (body:=slices_Index_Lbool_bool.l1 n l v) (len:=l.length) (st:=λi=>(i:Int)) (g:=λi=>some (ixP (λx=>v==x) (l.drop i) i)) (λrec i hi hr=>?_) (λrec=>?_) n 0 (yC _) (by omega)
 ·simpa [slices_Index_Lbool_bool] using this
 ·simp only [slices_Index_Lbool_bool.l1,lt_len hi,if_true,idx_nat hi,yb,add64_1 (i:=i) (by omega),hr];rw [drop_cons hi];simp only [ixP];split <;> rfl
 ·simp [slices_Index_Lbool_bool.l1,ixP]
theorem cells_all_eq {n l} (hl:l.length<1000000) (hn:1000000≤n):cells_all n l=some (l.all id):=by
 unfold cells_all slices_Contains_Lbool_bool;rw [IndexB_eq hl hn];simp only [yb,ixP_any,yf];rw [← any_not];congr 2;funext x;cases x <;> rfl
def b6:Nat→Int→Int
 | 0,A=>A
 | k+1,A=>b6 k (A*6)
theorem b6_le:∀ (k:Nat) (A:Int),1≤A→A≤b6 k A
 | 0,_,_=>Int.le_refl _
 | k+1,A,h=>Int.le_trans (by omega) (b6_le k (A*6) (by omega))
theorem mul_small {a b A:Int} (h1:1≤a) (h2:a≤A) (h3:1≤b) (h4:b≤6):1≤a*b∧a*b≤A*6:=by
 have e1:1*1≤a*b:=Int.mul_le_mul h1 h3 (by omega) (by omega);have e2:a*b≤A*6:=Int.mul_le_mul h2 h4 (by omega) (by omega);omega
theorem widthP_b6 (sizes:List Int) (hs:sizes.all sizeOK=true):∀ (cols:List Int) (s A:Int),cols.all (colOK sizes)=true→1≤s→s≤A→b6 cols.length A≤1000000→1≤widthP sizes cols s∧widthP sizes cols s≤b6 cols.length A
 | [],s,A,_,h1,h2,_=>by simpa [widthP,b6] using ⟨h1,h2⟩
 | c::l,s,A,hc,h1,h2,h3=>by
  simp only [um,yc] at hc;have hcol:=hc.1;simp only [colOK,yc,yd] at hcol;obtain ⟨k,rfl⟩:=yT hcol.1;have hk:k<sizes.length:=by omega
  have hz:=yr.1 hs _ (yt hk);simp only [sizeOK,yc,yd] at hz;have hg:sizes.getD (k:Int).toNat 0=sizes[k]:=by simp [List.getD,hk]
  have hm:=mul_small h1 h2 hz.1 hz.2;simp only [yR,b6] at h3 ⊢;have hb:=b6_le l.length (A*6) (by omega);simp only [widthP,hg];unfold mul64;rw [w64_id (by omega) (by omega)];exact widthP_b6 sizes hs l _ _ hc.2 hm.1 hm.2 h3
theorem widthP_bound {sizes cols} (hs:sizes.all sizeOK=true) (hc:cols.all (colOK sizes)=true) (h3:cols.length≤3):1≤widthP sizes cols 1∧widthP sizes cols 1≤216:=by
 have h:b6 cols.length 1≤216:=by
  match cols,h3 with
  | [],_=>decide
  | [_],_=>simp [b6]
  | [_,_],_=>simp [b6]
  | [_,_,_],_=>simp [b6]
  | _::_::_::_::_,h=>simp at h
 have:=widthP_b6 sizes hs cols 1 1 hc (by decide) (by decide) (by omega);omega
def strictP (k:Int):Bool:=k==0||k==1
def rangedP (t:Table):Bool:=if (t.kind==1||t.kind==4||t.kind==5)=true then (decide (t.range.lo≤t.range.hi)&&decide (-9999≤t.range.lo))&&decide (t.range.hi≤9999) else decide (t.range=(⟨0,1⟩:Range))
def tabP (sizes:List Int) (t:Table):Bool:=nameP t.name&&(decide (0≤t.kind)&&decide (t.kind≤5))&&(decide (t.columns.length≤3)&&t.columns.all (colOK sizes))&&rangedP t
def layP (sizes:List Int):List (List UInt8)→Int→Int→List Table→Bool
 | _,a,b,[]=>decide (a≤128)&&decide (b≤64)
 | seen,a,b,t::l=>(tabP sizes t&&!decide (t.name∈seen))&&(if strictP t.kind=true then t.first==a&&layP sizes (seen++[t.name]) (add64 a (widthP sizes t.columns 1)) b l else t.first==b&&layP sizes (seen++[t.name]) a (add64 b (widthP sizes t.columns 1)) l)
def layoutP (sizes:List Int) (tables:List Table):Bool:=decide (sizes.length≤4)&&decide (tables.length≤12)&&sizes.all sizeOK&&layP sizes [] 0 0 tables
theorem cells_ranged_eq {n t}:cells_ranged n t=some (rangedP t):=by
 unfold cells_ranged rangedP jn;by_cases h1:t.kind=1
 ·simp [h1]
 ·by_cases h4:t.kind=4
  ·simp [h4]
  ·by_cases h5:t.kind=5
   ·simp [h5]
   ·simp [h1,h4,h5]
theorem cells_Valid_eq {n sizes tables} (hF:Fuel n) (hs:sizes.length≤1000) (ht:tables.length≤1000) (hc:∀ t∈tables,t.columns.length≤1000):cells_Valid n sizes tables=some (layoutP sizes tables):=by
 have hn:=hF.big;unfold cells_Valid layoutP;rw [cells_sized_eq (by omega) (by omega),yb,cells_all_eq (by simp) (by omega),yb];simp only [um,List.all_nil,id,uw];have e1:decide ((sizes.length:Int)≤4)=decide (sizes.length≤4):=decide_eq_decide.2 (by omega);have e2:decide ((tables.length:Int)≤12)=decide (tables.length≤12):=decide_eq_decide.2 (by omega);rw [e1,e2,← Bool.and_assoc];by_cases h:(decide (sizes.length≤4)&&decide (tables.length≤12)&&sizes.all sizeOK)=true
 ·rw [h,if_neg (by simp),yA];have:=loopF_I (body:=cells_Valid.l1 n sizes tables) (len:=tables.length) (st:=λ(s:GMap (List UInt8) Bool×Int×Int) i=>(s.1,s.2.1,s.2.2,(i:Int))) (g:=λi s=>some (layP sizes ((tables.take i).map (·.name)) s.2.1 s.2.2 (tables.drop i))) (λi s=>SetIs s.1 ((tables.take i).map (·.name))) (λrec i s hi hm hr=>?_) (λrec s _=>?_) n 0 (GMap.empty,0,0) (yC _) (by omega) (by simpa using SetIs.empty)
  ·simpa using this
  ·obtain ⟨m,a,b⟩:=s;simp only [] at hm;have hmem:=yt hi;have hcols:=hc _ hmem;simp only [cells_Valid.l1,jn,lt_len hi,if_true,idx_nat hi,yb,lexer_Name_eq hF,hm.getS,cells_within,cells_columned_eq (show tables[i].columns.length<4611686018427387904 by omega) (show tables[i].columns.length<n by omega),cells_ranged_eq,cells_isStrict,add64_1 (i:=i) (by omega)];rw [cells_all_eq (by simp) (by omega),yb];simp only [um,List.all_nil,id,uw];have hput:=hm.put tables[i].name;have htk:((tables.take (i+1)).map (·.name))=(tables.take i).map (·.name)++[tables[i].name]:=by rw [yI hi,ui];rfl
   rw [← htk] at hput;have hT:(nameP tables[i].name&&(!decide (tables[i].name∈(tables.take i).map (·.name))&&(decide (0≤tables[i].kind)&&decide (tables[i].kind≤5)&&(decide (tables[i].columns.length≤3)&&tables[i].columns.all (colOK sizes)&&rangedP tables[i]))))=(tabP sizes tables[i]&&!decide (tables[i].name∈(tables.take i).map (·.name))):=by
    unfold tabP;cases nameP tables[i].name <;> cases decide (tables[i].name∈(tables.take i).map (·.name)) <;> simp [Bool.and_assoc]
   rw [hT,drop_cons hi,layP];by_cases hv:(tabP sizes tables[i]&&!decide (tables[i].name∈(tables.take i).map (·.name)))=true
   ·rw [hv,if_neg (by simp),yA];have hcol:tables[i].columns.all (colOK sizes)=true:=by
     simp only [tabP,yc] at hv;exact hv.1.1.2.2
    simp only [cells_width_eq hcol (show tables[i].columns.length<4611686018427387904 by omega) (show tables[i].columns.length<n by omega),yb,← htk];unfold strictP;by_cases hk:(tables[i].kind==0||tables[i].kind==1)=true
    ·rw [if_pos hk,if_pos hk];by_cases hf:tables[i].first=a
     ·rw [if_neg (by simp [hf]),hr (m.put tables[i].name true,add64 a (widthP sizes tables[i].columns 1),b) hput];simp [hf]
     ·rw [if_pos (by simp [hf])];simp [hf]
    ·rw [if_neg hk,if_neg hk];by_cases hf:tables[i].first=b
     ·rw [if_neg (by simp [hf]),hr (m.put tables[i].name true,a,add64 b (widthP sizes tables[i].columns 1)) hput];simp [hf]
     ·rw [if_pos (by simp [hf])];simp [hf]
   ·simp only [yF] at hv;rw [hv,if_pos (by simp),yZ]
  ·simp [cells_Valid.l1,layP]
 ·simp only [yF] at h;rw [h,if_pos (by simp),yZ]
theorem ref09_Valid_eq {n sizes tables} (hn:1000000≤n) (hs:sizes.length≤1000) (ht:tables.length≤1000) (hc:∀ t∈tables,t.columns.length≤1000∧t.name.length≤4096):ref09_Valid n sizes tables=some (layoutP sizes tables):=by
 unfold ref09_Valid layoutP;have e1:decide (4<(sizes.length:Int)) = !decide (sizes.length≤4):=by rw [← decide_not];exact decide_eq_decide.2 (by omega)
 have e2:decide (12<(tables.length:Int)) = !decide (tables.length≤12):=by rw [← decide_not];exact decide_eq_decide.2 (by omega)
 rw [ref09_sound_eq (by omega) (by omega),e1,e2];simp only [yj,yx,grd,if_true,yh];by_cases h:(decide (sizes.length≤4)&&decide (tables.length≤12)&&sizes.all sizeOK)=true
 ·rw [h,yA];simp only [yc] at h;obtain ⟨⟨h1,h2⟩,h3⟩:=h;rw [h1,h2,h3,if_neg (by simp)];have:=loopF_I (body:=ref09_Valid.l1 n sizes tables) (len:=tables.length) (st:=λ(s:Int×Int) i=>(s.1,s.2,(i:Int))) (g:=λi s=>some (layP sizes ((tables.take i).map (·.name)) s.1 s.2 (tables.drop i))) (λ_ _=>True) (λrec i s hi _ hr=>?_) (λrec s _=>?_) n 0 (0,0) (yC _) (by omega) trivial
  ·simpa using this
  ·obtain ⟨a,b⟩:=s;have hmem:=yt hi;obtain ⟨hcols,hname⟩:=hc _ hmem;simp only [ref09_Valid.l1,jn,lt_len hi,if_true,idx_nat hi,yb];generalize hK:(λ(v:Int×Int)=>rec (v.1,v.2,add64 (i:Int) 1))=K;have inner:=loopF_g (body:=ref09_Valid.l2 n sizes tables a b i K tables[i]) (len:=i) (st:=λk=>(k:Int)) (g:=λk=>if decide (tables[i].name∈((tables.take i).drop k).map (·.name))=true then some false else ref09_Valid.l2 n sizes tables a b i K tables[i] (λ_=>none) (i:Int)) (λrec' k hk hr'=>?_) (λrec'=>?_) n 0 (yC _) (by omega)
   ·rw [show ((0:Nat):Int)=0 from rfl] at inner;rw [inner,drop_cons hi,layP,List.drop_zero];have htk:((tables.take (i+1)).map (·.name))=(tables.take i).map (·.name)++[tables[i].name]:=by rw [yI hi,ui];rfl
    cases hseen:decide (tables[i].name∈(tables.take i).map (·.name)) with
    | true=>simp
    | false=>
     simp only [yk,if_false,uq,uw];have hnum:=ref09_number_eq (n:=n) (sizes:=sizes) (cols:=tables[i].columns) (by omega) (by omega) (by omega) (by omega);rw [h3,uw] at hnum;simp only [ref09_Valid.l2,ge_nat (ym i),yk,if_false,hnum,yb,ref02_Name_eq hname hn,ref09_strict];unfold tabP;by_cases hcol:(decide (tables[i].columns.length≤3)&&tables[i].columns.all (colOK sizes))=true
     ·simp only [hcol,if_true,uw];have hcol':=hcol;simp only [yc,yd] at hcol';have hw:=widthP_bound h3 hcol'.2 hcol'.1;have hw0:(widthP sizes tables[i].columns 1==0)=false:=by simp;omega
      rw [hw0,Bool.or_false];by_cases hnk:(nameP tables[i].name&&(decide (0≤tables[i].kind)&&decide (tables[i].kind≤5)))=true
      ·rw [hnk,yA];simp only [yc,yd] at hnk;rw [if_neg (by simp [hnk.1];omega)];by_cases hrg:rangedP tables[i]=true
       ·rw [hrg,yA];unfold rangedP at hrg;rw [if_neg (by
         split at hrg
         ·simp only [yc,yd] at hrg;simp only [yw,yd];omega
         ·simp only [yd] at hrg;rw [hrg];decide),if_neg (by
         split at hrg
         ·rename_i hk;simp only [yw,beq_iff_eq] at hk;simp only [yc,yw,beq_iff_eq];omega
         ·simp only [yd] at hrg;rw [hrg];simp)]
        unfold strictP;by_cases hk:(tables[i].kind==0||tables[i].kind==1)=true
        ·rw [if_pos hk,if_pos hk];by_cases hf:tables[i].first=a
         ·rw [if_neg (by simp [hf]),← hK];simp only [add64_1 (i:=i) (by omega)];have:=hr (add64 a (widthP sizes tables[i].columns 1),b) trivial;simp only [] at this;rw [this,htk];simp [hf]
         ·rw [if_pos (by simp [hf])];simp [hf]
        ·rw [if_neg hk,if_neg hk];by_cases hf:tables[i].first=b
         ·rw [if_neg (by simp [hf]),← hK];simp only [add64_1 (i:=i) (by omega)];have:=hr (a,add64 b (widthP sizes tables[i].columns 1)) trivial;simp only [] at this;rw [this,htk];simp [hf]
         ·rw [if_pos (by simp [hf])];simp [hf]
       ·simp only [yF] at hrg;rw [hrg,yZ];unfold rangedP at hrg;split at hrg
        ·rename_i hk;rw [if_pos (by
          simp only [uk,yE] at hrg;simp only [yw,yd];omega)]
        ·rename_i hk;simp only [yw,beq_iff_eq,not_or] at hk;have hr01:¬ (tables[i].range.lo=0∧tables[i].range.hi=1):=by
          rintro ⟨q1,q2⟩;simp only [yE] at hrg;apply hrg;cases hrr:tables[i].range;rw [hrr] at q1 q2;simp only [] at q1 q2;rw [q1,q2]
         split
         ·rfl
         ·rw [if_pos (by
           simp only [yc,yw,beq_iff_eq,bne_iff_ne,ne_eq];omega)]
      ·simp only [yF] at hnk;rw [hnk,yZ,yZ];rw [if_pos (by
        simp only [uk,yE] at hnk;simp only [yw,yy,yd];rcases hnk with h | h | h
        ·exact .inl (.inl h)
        ·exact .inl (.inr (by omega))
        ·exact .inr (by omega))]
     ·simp only [yF] at hcol;simp only [hcol,Bool.and_false,yZ,yk,if_false];rw [if_pos (by simp)]
   ·have hk':k<tables.length:=by omega
    simp only [ref09_Valid.l2,lt_nat hk,if_true,idx_nat hk',yb,add64_1 (i:=k) (by omega),hr'];have hk2:k<(tables.take i).length:=by simp;omega
    rw [drop_cons hk2];simp only [List.getElem_take,yL,yD];by_cases hnm:tables[k].name=tables[i].name
    ·rw [if_pos (by simpa using hnm),if_pos (by simp [hnm])]
    ·rw [if_neg (by simpa using hnm)];have hnm':¬ tables[i].name=tables[k].name:=λe=>hnm e.symm
     simp only [hnm',false_or]
   ·rw [if_neg (by simp)];simp only [ref09_Valid.l2,ge_nat (ym i),yk,if_false]
  ·simp [ref09_Valid.l1,layP]
 ·simp only [yF] at h;rw [h,yZ];rw [if_pos (by
   simp only [uk] at h;simp only [yw,yy];rcases h with (h | h) | h
   ·exact .inl (.inl h)
   ·exact .inr h
   ·exact .inl (.inr h))]
def rangesP (sizes:List Int) (s:Bool):List Table→List Range
 | []=>[]
 | t::l=>if (strictP t.kind==s)=true then List.replicate (widthP sizes t.columns 1).toNat t.range++rangesP sizes s l else rangesP sizes s l
theorem layP_tab {sizes}:∀ {l:List Table} {seen:List (List UInt8)} {a b:Int},layP sizes seen a b l=true→∀ t∈l,tabP sizes t=true
 | [],_,_,_,_,_,ht=>by simp at ht
 | x::l,seen,a,b,h,t,ht=>by
  simp only [layP,yc] at h;simp only [yD] at ht;rcases ht with rfl | ht
  ·exact h.1.1
  ·have h2:=h.2;split at h2
   ·simp only [yc] at h2;exact layP_tab h2.2 t ht
   ·simp only [yc] at h2;exact layP_tab h2.2 t ht
theorem layoutP_tab {sizes tables} (h:layoutP sizes tables=true):sizes.length≤4∧tables.length≤12∧sizes.all sizeOK=true∧∀ t∈tables,nameP t.name=true∧(0≤t.kind∧t.kind≤5)∧t.columns.length≤3∧t.columns.all (colOK sizes)=true∧1≤widthP sizes t.columns 1∧widthP sizes t.columns 1≤216:=by
 simp only [layoutP,yc,yd] at h;obtain ⟨⟨⟨h1,h2⟩,h3⟩,h4⟩:=h;refine ⟨h1,h2,h3,λt ht=>?_⟩;have:=layP_tab h4 t ht;simp only [tabP,yc,yd] at this;obtain ⟨⟨⟨p1,p2⟩,p3⟩,-⟩:=this;exact ⟨p1,p2,p3.1,p3.2,widthP_bound h3 p3.2 p3.1⟩
theorem rangesP_len {sizes s}:∀ {l:List Table},(∀ t∈l,1≤widthP sizes t.columns 1∧widthP sizes t.columns 1≤216)→(rangesP sizes s l).length≤l.length*216
 | [],_=>by simp [rangesP]
 | t::l,h=>by
  have ih:=rangesP_len (s:=s) (l:=l) λx hx=>h x (by simp [hx])
  have ht:=h t (by simp);simp only [rangesP,yR];split
  ·simp only [yS,uf];omega
  ·omega
theorem Mul_eq {n}:∀ w:Fin 217,math_bits_Mul n 1 ((w.1:Nat):Int)=some (0,((w.1:Nat):Int)):=by
 intro w;unfold math_bits_Mul math_bits_Mul64;revert w;decide +kernel
theorem wk_small:∀ w:Fin 217,wk .u64 ((w.1:Nat):Int)=((w.1:Nat):Int)∧wk .i64 ((w.1:Nat):Int)=((w.1:Nat):Int):=by decide +kernel
theorem Repeat_eq {n x w} (h1:1≤w) (h2:w≤216) (hn:1000000≤n):slices_Repeat_LRange_api_Range n [x] w=some (List.replicate w.toNat x):=by
 obtain ⟨W,rfl⟩:=yT (show 0≤w by omega);have hW:W<217:=by omega
 have hwk:=wk_small ⟨W,hW⟩;simp only [] at hwk;have h1k:wk .u64 (([x]:List Range).length:Int)=1:=(wk_small ⟨1,by decide⟩).1;unfold slices_Repeat_LRange_api_Range;rw [if_neg (by simp),h1k,hwk.1,Mul_eq ⟨W,hW⟩];simp only [yb];rw [if_neg (by simp;omega),hwk.2];have hm:mkl 16 (W:Int) (⟨0,0⟩:Range)=some (List.replicate W ⟨0,0⟩):=by
  unfold mkl;rw [if_pos (by omega)];simp
 rw [hm,yb];simp only [uf,List.length_singleton,Nat.sub_zero,yz];rw [show min W 1=1 by omega];refine loopF_M (body:=slices_Repeat_LRange_api_Range.l1 n) (λs=>W - s.2.toNat) (λs=>∃ k:Nat,s.2=(k:Int)∧1≤k∧k≤W∧s.1.length=W∧s.1.take k=List.replicate k x) (λ_ o=>o=some (List.replicate W x)) (λrec s hI hr=>?_) n _ ⟨1,rfl,by omega,by omega,?_,?_⟩ (by simp;omega)
 ·obtain ⟨b,kk⟩:=s;obtain ⟨k,rfl,k1,k2,hb,hk⟩:=hI;simp only [] at hb hk;simp only [slices_Repeat_LRange_api_Range.l1];by_cases hlt:k<W
  ·have hcE:cut b (k:Int) (W:Int)=some (b.drop k):=by rw [← hb];exact cut_end (by omega)
   have hc:=cut_nat (l:=b) (a:=0) (b:=k) (by omega) (by omega)
   simp only [Int.natCast_zero] at hc;simp only [hb,lt_nat hlt,if_true,hcE,hc,yb,yz,List.drop_zero,Nat.sub_zero,hk,uf];rw [add64_nat (by omega)];refine hr (_,((k+min (W - k) k:Nat):Int)) ⟨k+min (W - k) k,rfl,by omega,by omega,?_,?_⟩ (by simp only [yz];omega)
   ·simp only [];rw [copyTo_length (by omega) (by omega),hb]
   ·simp only [copyTo,hk,List.take_replicate,uf];rw [show min (W - k) k=min (W - k) k from rfl,← yP,List.replicate_append_replicate];rw [List.take_append_of_le_length (by simp)];simp
  ·have:k=W:=by omega
   subst this;have hd:decide ((k:Int)<(b.length:Int))=false:=by rw [hb];exact ge_nat (ym _)
   simp only [hd,yk,if_false];rw [← hk,List.take_of_length_le (by omega)]
 ·rw [copyTo_length (by omega) (by simp)];simp
 ·simp [copyTo,List.take_append];rw [List.take_of_length_le (l:=[x]) (by simp;omega),show min W 1=1 by omega];simp
theorem rangesP_append (sizes s):∀ (l m:List Table),rangesP sizes s (l++m)=rangesP sizes s l++rangesP sizes s m
 | [],_=>rfl
 | t::l,m=>by
  simp only [yW,rangesP,rangesP_append sizes s l m];split <;> simp
theorem rangesP_snoc {sizes:List Int} {s:Bool} {l:List Table} {i:Nat} (hi:i<l.length):rangesP sizes s (l.take (i+1))=if (strictP l[i].kind==s)=true then rangesP sizes s (l.take i)++List.replicate (widthP sizes l[i].columns 1).toNat l[i].range else rangesP sizes s (l.take i):=by
 rw [yI hi,rangesP_append];simp only [rangesP];split <;> simp
theorem cells_Ranges_eq {n:Nat} {sizes:List Int} {tables:List Table} {s:Bool} (hF:Fuel n) (hs:sizes.length≤1000) (ht:tables.length≤1000) (hc:∀ t∈tables,t.columns.length≤1000) :
  cells_Ranges n sizes tables s=some (if layoutP sizes tables=true then rangesP sizes s tables else []):=by
 have hn:=hF.big;unfold cells_Ranges;rw [cells_Valid_eq hF hs ht hc,yb];cases hL:layoutP sizes tables with
 | false=>simp
 | true=>
  obtain ⟨l1,l2,l3,l4⟩:=layoutP_tab hL;have:=loopF_g (body:=cells_Ranges.l1 n sizes tables s) (len:=tables.length) (st:=λi=>(rangesP sizes s (tables.take i),(i:Int))) (g:=λ_=>some (rangesP sizes s tables)) (λrec i hi hr=>?_) (λrec=>?_) n 0 (yC _) (by omega)
  ·simpa [rangesP] using this
  ·obtain ⟨-,-,c1,c2,c3,c4⟩:=l4 _ (yt hi);have hlen:=rangesP_len (sizes:=sizes) (s:=s) (l:=tables.take i) λx hx=>(l4 x (List.mem_of_mem_take hx)).2.2.2.2
   simp only [yX] at hlen;rw [rangesP_snoc hi] at hr;simp only [cells_Ranges.l1,jn,lt_len hi,if_true,idx_nat hi,yb,cells_isStrict,add64_1 (i:=i) (by omega)];unfold strictP at hr;by_cases hk:((tables[i].kind==0||tables[i].kind==1)==s)=true
   ·rw [if_pos hk] at hr ⊢;rw [cells_width_eq c2 (by omega) (by omega),yb,Repeat_eq c3 c4 (by omega),yb,app_some (by simp only [uf];omega),yb,hr]
   ·rw [if_neg hk] at hr ⊢;rw [hr]
  ·simp [cells_Ranges.l1]
theorem ref09_Ranges_eq {n:Nat} {sizes:List Int} {tables:List Table} {s:Bool} (hn:1000000≤n) (hs:sizes.length≤1000) (ht:tables.length≤1000) (hc:∀ t∈tables,t.columns.length≤1000∧t.name.length≤4096) :
  ref09_Ranges n sizes tables s=some (if layoutP sizes tables=true then rangesP sizes s tables else []):=by
 unfold ref09_Ranges;rw [ref09_Valid_eq hn hs ht hc,yb];cases hL:layoutP sizes tables with
 | false=>simp
 | true=>
  obtain ⟨l1,l2,l3,l4⟩:=layoutP_tab hL;have:=loopF_g (body:=ref09_Ranges.l1 n sizes tables s) (len:=tables.length) (st:=λi=>(rangesP sizes s (tables.take i),(i:Int))) (g:=λ_=>some (rangesP sizes s tables)) (λrec i hi hr=>?_) (λrec=>?_) n 0 (yC _) (by omega)
  ·simpa [rangesP] using this
  ·obtain ⟨-,-,c1,c2,c3,c4⟩:=l4 _ (yt hi);have hlen:=rangesP_len (sizes:=sizes) (s:=s) (l:=tables.take i) λx hx=>(l4 x (List.mem_of_mem_take hx)).2.2.2.2
   simp only [yX] at hlen;rw [rangesP_snoc hi] at hr;simp only [ref09_Ranges.l1,lt_len hi,if_true];obtain ⟨W,hW⟩:=yT (show 0≤widthP sizes tables[i].columns 1 by omega);have hnum:=ref09_number_eq (n:=n) (sizes:=sizes) (cols:=tables[i].columns) (by omega) (by omega) (by omega) (by omega);simp only [l3,c2,c1,decide_true,uw,if_true] at hnum;have inner:=loopF_g (body:=ref09_Ranges.l2 n sizes tables s i rec) (len:=if (strictP tables[i].kind==s)=true then W else 0) (st:=λk=>(rangesP sizes s (tables.take i)++List.replicate k tables[i].range,(k:Int))) (g:=λ_=>some (rangesP sizes s tables)) (λrec' k hk hr'=>?_) (λrec'=>?_) n 0 (yC _) (by split <;> omega)
   ·simpa using inner
   ·split at hk
    ·rename_i hst;simp only [strictP] at hst;simp only [ref09_Ranges.l2,idx_nat hi,yb,ref09_strict,hst,yj,yx,grd,if_true,yh,hnum,yA,hW,lt_nat hk,add64_1 (i:=k) (by omega)];rw [app_some (by simp only [yS,uf,List.length_singleton];omega),yb,yP,← List.replicate_succ',hr']
    ·omega
   ·by_cases hst:((tables[i].kind==0||tables[i].kind==1)==s)=true
    ·have hst':(strictP tables[i].kind==s)=true:=hst;rw [if_pos hst'] at hr ⊢;simp only [ref09_Ranges.l2,idx_nat hi,yb,ref09_strict,hst,yj,yx,grd,if_true,yh,hnum,yA,hW,ge_nat (ym W),yk,if_false,add64_1 (i:=i) (by omega)];rw [hW] at hr;simpa using hr
    ·have hst':¬ (strictP tables[i].kind==s)=true:=hst;rw [if_neg hst'] at hr ⊢;simp only [yF] at hst;simp only [ref09_Ranges.l2,idx_nat hi,yb,ref09_strict,hst,uq,uz,grd,if_true,yZ,yk,if_false,add64_1 (i:=i) (by omega)];simpa using hr
  ·simp [ref09_Ranges.l1]

structure Good (n:Nat) (m:Model):Prop where
 acts:∀ a∈m.actions,a.effect.delta.length<4611686018427387904∧a.effect.delta.length<n∧(∀ k,addP k a.effect.delta 0=addedP a.effect.delta k)∧∀ r∈a.effect.hold,r.terms.length<4611686018427387904∧r.terms.length<n
 cons:∀ c∈m.constraints,(c.kind=0∨c.kind=1)∧c.row.terms.length<4611686018427387904∧c.row.terms.length<n∧∃ K:Nat,mul64 c.size c.size=(K:Int)∧K<17592186044416∧K<n
theorem idx_mem {α:Type} {l:List α} {i:Int} {x:α} (h:idx l i=some x):x∈l:=by
 obtain ⟨n,rfl,hn,rfl⟩:=idxS h;exact yt hn
theorem idx_some {α:Type} {l:List α} {i:Int} (h0:0≤i) (h1:i<(l.length:Int)):∃ x,idx l i=some x:=by
 obtain ⟨n,rfl⟩:=yT h0;exact ⟨_,idx_nat (by omega)⟩
def allR (p:Nat→Bool) (i:Nat):Nat→Bool
 | 0=>true
 | k+1=>p i&&allR p (i+1) k
theorem allR_iff {p}:∀ {k i:Nat},allR p i k=true↔∀ j,i≤j→j<i+k→p j=true
 | 0,i=>by simp [allR];omega
 | k+1,i=>by
  simp only [allR,yc,allR_iff (k:=k) (i:=i+1)];constructor
  ·rintro ⟨h1,h2⟩ j hj hk;by_cases e:j=i
   ·rw [e];exact h1
   ·exact h2 j (by omega) (by omega)
  ·intro h;exact ⟨h i (ym _) (by omega),λj hj hk=>h j (by omega) (by omega)⟩
theorem allR_0 {p k}:allR p 0 k=true↔∀ j,j<k→p j=true:=by
 rw [allR_iff];simp
theorem loopF_all {S R:Type} {body:(S→Option R)→S→Option R} {len n:Nat} {st:Nat→S} (p:Nat→Bool) (F T:Option R)
  (hb:∀ rec i,i<len→body rec (st i)=if p i=true then rec (st (i+1)) else F) (he:∀ rec,body rec (st len)=T) (hn:len<n):loopF body n (st 0)=if allR p 0 len=true then T else F:=by
 have:=loopF_g (body:=body) (len:=len) (st:=st) (g:=λi=>if allR p i (len - i)=true then T else F) (λrec i hi hr=>?_) (λrec=>?_) n 0 (yC _) (by omega)
 ·simpa using this
 ·rw [hb rec i hi,show len - i=(len - (i+1))+1 by omega,allR,hr];cases p i <;> simp
 ·rw [he];simp [allR]
theorem IndexFunc_LTable_api_Table_eq {n l f p} (hf:∀ x∈l,f x=some (p x)) (hl:l.length<1000000) (hn:1000000≤n):slices_IndexFunc_LTable_api_Table n l f=some (ixP p l 0):=by
 have:=loopF_g (body:=slices_IndexFunc_LTable_api_Table.l1 n l f) (len:=l.length) (st:=λi=>(i:Int)) (g:=λi=>some (ixP p (l.drop i) i)) (λrec i hi hr=>?_) (λrec=>?_) n 0 (yC _) (by omega)
 ·simpa [slices_IndexFunc_LTable_api_Table] using this
 ·simp only [slices_IndexFunc_LTable_api_Table.l1,lt_len hi,if_true,idx_nat hi,yb,hf _ (yt hi),add64_1 (i:=i) (by omega),hr];rw [drop_cons hi];simp only [ixP];split <;> rfl
 ·simp [slices_IndexFunc_LTable_api_Table.l1,ixP]
theorem ContainsFunc_LTable_api_Table_eq {n l f p} (hf:∀ x∈l,f x=some (p x)) (hl:l.length<1000000) (hn:1000000≤n):slices_ContainsFunc_LTable_api_Table n l f=some (l.any p):=by
 unfold slices_ContainsFunc_LTable_api_Table;rw [IndexFunc_LTable_api_Table_eq hf hl hn,yb,ixP_any]
theorem IndexFunc_LRow_api_Row_eq {n l f p} (hf:∀ x∈l,f x=some (p x)) (hl:l.length<1000000) (hn:1000000≤n):slices_IndexFunc_LRow_api_Row n l f=some (ixP p l 0):=by
 have:=loopF_g (body:=slices_IndexFunc_LRow_api_Row.l1 n l f) (len:=l.length) (st:=λi=>(i:Int)) (g:=λi=>some (ixP p (l.drop i) i)) (λrec i hi hr=>?_) (λrec=>?_) n 0 (yC _) (by omega)
 ·simpa [slices_IndexFunc_LRow_api_Row] using this
 ·simp only [slices_IndexFunc_LRow_api_Row.l1,lt_len hi,if_true,idx_nat hi,yb,hf _ (yt hi),add64_1 (i:=i) (by omega),hr];rw [drop_cons hi];simp only [ixP];split <;> rfl
 ·simp [slices_IndexFunc_LRow_api_Row.l1,ixP]
theorem ContainsFunc_LRow_api_Row_eq {n l f p} (hf:∀ x∈l,f x=some (p x)) (hl:l.length<1000000) (hn:1000000≤n):slices_ContainsFunc_LRow_api_Row n l f=some (l.any p):=by
 unfold slices_ContainsFunc_LRow_api_Row;rw [IndexFunc_LRow_api_Row_eq hf hl hn,yb,ixP_any]
theorem IndexFunc_LHide_api_Hide_eq {n l f p} (hf:∀ x∈l,f x=some (p x)) (hl:l.length<1000000) (hn:1000000≤n):slices_IndexFunc_LHide_api_Hide n l f=some (ixP p l 0):=by
 have:=loopF_g (body:=slices_IndexFunc_LHide_api_Hide.l1 n l f) (len:=l.length) (st:=λi=>(i:Int)) (g:=λi=>some (ixP p (l.drop i) i)) (λrec i hi hr=>?_) (λrec=>?_) n 0 (yC _) (by omega)
 ·simpa [slices_IndexFunc_LHide_api_Hide] using this
 ·simp only [slices_IndexFunc_LHide_api_Hide.l1,lt_len hi,if_true,idx_nat hi,yb,hf _ (yt hi),add64_1 (i:=i) (by omega),hr];rw [drop_cons hi];simp only [ixP];split <;> rfl
 ·simp [slices_IndexFunc_LHide_api_Hide.l1,ixP]
theorem ContainsFunc_LHide_api_Hide_eq {n l f p} (hf:∀ x∈l,f x=some (p x)) (hl:l.length<1000000) (hn:1000000≤n):slices_ContainsFunc_LHide_api_Hide n l f=some (l.any p):=by
 unfold slices_ContainsFunc_LHide_api_Hide;rw [IndexFunc_LHide_api_Hide_eq hf hl hn,yb,ixP_any]
def aroundP (x most:Int):Bool:=decide (-most≤x)&&decide (x≤most)
theorem around3 {n x}:model_around n x 1000=some (aroundP x 1000):=rfl
theorem around9 {n x}:model_around n x 1000000000=some (aroundP x 1000000000):=rfl
theorem around4 {n x}:model_around n x 9999=some (aroundP x 9999):=rfl
theorem between3 {n x}:ref13_between n x 1000=some (aroundP x 1000):=rfl
theorem between9 {n x}:ref13_between n x 1000000000=some (aroundP x 1000000000):=rfl
theorem between4 {n x}:ref13_between n x 9999=some (aroundP x 9999):=rfl
def rowP (K:Nat):Int→List Term→Bool
 | _,[]=>true
 | last,t::l=>(decide (last<t.cell)&&decide (t.cell<(K:Int))&&(t.factor != 0)&&aroundP t.factor 1000)&&rowP K t.cell l
def rowOK (K:Nat) (r:Row):Bool:=rowP K (-1) r.terms&&aroundP r.bound 1000000000
theorem sub64_1 {i:Nat} (h0:0<i) (h:i<4611686018427387904):sub64 (i:Int) 1=((i - 1:Nat):Int):=by
 unfold sub64;rw [w64_id (by omega) (by omega)];omega
theorem model_row_eq {n} {j:Judge} {r} (hl:r.terms.length<1000000) (hn:1000000≤n):model_judge_row n j r=some (rowOK j.strict.length r):=by
 have:=loopF_I (body:=model_judge_row.l1 n j r) (len:=r.terms.length) (st:=λ(s:Int) i=>(s,(i:Int))) (g:=λi s=>some (rowP j.strict.length s (r.terms.drop i)&&aroundP r.bound 1000000000)) (λ_ _=>True) (λrec i s hi _ hr=>?_) (λrec s _=>?_) n 0 (-1) (yC _) (by omega) trivial
 ·simpa [model_judge_row,rowOK] using this
 ·simp only [model_judge_row.l1,lt_len hi,if_true,idx_nat hi,yb,around3,yj,yx,grd,yh,add64_1 (i:=i) (by omega),hr r.terms[i].cell trivial];rw [drop_cons hi,rowP];by_cases h:(decide (s<r.terms[i].cell)&&decide (r.terms[i].cell<(j.strict.length:Int))&&(r.terms[i].factor != 0)&&aroundP r.terms[i].factor 1000)=true
  ·rw [h,yA];simp only [yc,yd,bne_iff_ne] at h;rw [if_neg (by simp [h.2,h.1.2];omega)]
  ·rw [if_pos (by
    simp only [yc,yd,bne_iff_ne,ne_eq] at h;simp only [yw,yd,beq_iff_eq,yy,← yF];by_cases ha:aroundP r.terms[i].factor 1000=true
    ·left;simp only [ha,and_true] at h;omega
    ·exact .inr ha)]
   simp only [yF] at h;rw [h];rfl
 ·simp [model_judge_row.l1,around9,rowP]
theorem ref_row_eq {n K:Nat} {r} (hl:r.terms.length<1000000) (hn:1000000≤n):ref13_row n r (K:Int)=some (rowOK K r):=by
 have:=loopF_I (body:=ref13_row.l1 n r (K:Int)) (len:=r.terms.length) (st:=λ(_:Int) i=>(i:Int)) (g:=λi s=>some (rowP K s (r.terms.drop i)&&aroundP r.bound 1000000000)) (λi s=>-1≤s∧((i=0∧s = -1)∨(0<i∧∃ x,idx r.terms (sub64 (i:Int) 1)=some x∧x.cell=s))) (λrec i s hi hI hr=>?_) (λrec s _=>?_) n 0 (-1) (yC _) (by omega) ⟨by omega,.inl ⟨rfl,rfl⟩⟩
 ·simpa [ref13_row,rowOK] using this
 ·obtain ⟨h1,h2⟩:=hI;have hprev:(decide (0<(i:Int))&&decide (r.terms[i].cell≤((idx r.terms (sub64 (i:Int) 1)).getD default).cell))=(decide (0<i)&&decide (r.terms[i].cell≤s))∧(!(decide (0<(i:Int)))||(idx r.terms (sub64 (i:Int) 1)).isSome)=true:=by
   rcases h2 with ⟨h2,h3⟩ | ⟨h2,x,h3,h4⟩
   ·subst h2;simp
   ·rw [h3];simp [h4,h2]
  simp only [ref13_row.l1,lt_len hi,if_true,idx_nat hi,yb,between3,yj,yx,grd,yh,hprev.1,hprev.2,add64_1 (i:=i) (by omega)];rw [drop_cons hi,rowP];by_cases h:(decide (s<r.terms[i].cell)&&decide (r.terms[i].cell<(K:Int))&&(r.terms[i].factor != 0)&&aroundP r.terms[i].factor 1000)=true
  ·rw [h,yA];simp only [yc,yd,bne_iff_ne] at h;rw [if_neg (by simp [h.2,h.1.2];omega),hr r.terms[i].cell ⟨by omega,.inr ⟨by omega,r.terms[i],by
    rw [sub64_1 (by omega) (by omega),show i+1 - 1=i by omega,idx_nat hi],rfl⟩⟩]
  ·rw [if_pos (by
    simp only [yc,yd,bne_iff_ne,ne_eq] at h;simp only [yw,yc,yd,beq_iff_eq,yy,← yF];by_cases ha:aroundP r.terms[i].factor 1000=true
    ·left;simp only [ha,and_true] at h;rcases h2 with ⟨h2,h3⟩ | ⟨h2,-⟩ <;> omega
    ·exact .inr ha)]
   simp only [yF] at h;rw [h];rfl
 ·simp [ref13_row.l1,between9,rowP]
def graphT (sorts:List Int) (c:Constraint) (t:Table):Bool:=(t.kind==0&&((t.columns.length:Int)==2))&&(((idx t.columns 0).getD default==(idx t.columns 1).getD default)&&t.first==c.first&&((idx sorts ((idx t.columns 0).getD default)).getD default==c.size))
def graphP (m:Model) (c:Constraint):Bool:=(((c.row.terms.length:Int)==0)&&(c.row.bound==0))&&m.tables.any (graphT m.sorts c)
theorem graph_cols {sorts:List Int} {t:Table} (hc:t.columns.all (colOK sorts)=true) (h2:(t.columns.length:Int)=2):(∃ x,idx t.columns 0=some x)∧(∃ x,idx t.columns 1=some x)∧∃ x,idx sorts ((idx t.columns 0).getD default)=some x:=by
 obtain ⟨x,hx⟩:=idx_some (l:=t.columns) (i:=0) (by omega) (by omega);obtain ⟨y,hy⟩:=idx_some (l:=t.columns) (i:=1) (by omega) (by omega);refine ⟨⟨x,hx⟩,⟨y,hy⟩,?_⟩;rw [hx];exact ⟨_,idx_col (yr.1 hc x (idx_mem hx))⟩
theorem graph_1_eq {n} {j:Judge} {c t} (hc:t.columns.all (colOK j.model.sorts)=true):model_judge_graph_1 n t c j=some (graphT j.model.sorts c t):=by
 unfold model_judge_graph_1 graphT;by_cases h2:(t.kind==0&&((t.columns.length:Int)==2))=true
 ·have h2':=h2;simp only [yc,beq_iff_eq] at h2';obtain ⟨⟨x,hx⟩,⟨y,hy⟩,z,hz⟩:=graph_cols hc h2'.2;rw [hx] at hz;simp only [yh] at hz;simp [h2,hx,hy,hz,grd,Bool.and_assoc]
 ·simp only [yF] at h2;simp [h2,grd]
theorem model_graph_eq {n} {j:Judge} {c} (hc:∀ t∈j.model.tables,t.columns.all (colOK j.model.sorts)=true) (hl:j.model.tables.length<1000000) (hn:1000000≤n):model_judge_graph n j c=some (graphP j.model c):=by
 unfold model_judge_graph graphP;rw [ContainsFunc_LTable_api_Table_eq (p:=graphT j.model.sorts c) (λt ht=>graph_1_eq (hc t ht)) hl hn];simp [grd]
theorem ref_graph_eq {n m c} (hc:∀ t∈m.tables,t.columns.all (colOK m.sorts)=true) (hl:m.tables.length<1000000) (hn:1000000≤n):ref13_graph n m c=some (graphP m c):=by
 unfold ref13_graph graphP;by_cases h:(((c.row.terms.length:Int)==0)&&(c.row.bound==0))=true
 ·rw [h,yA];simp only [yc,beq_iff_eq] at h;rw [if_neg (by rw [h.1,h.2];decide)];have:=loopF_g (body:=ref13_graph.l1 n m c) (len:=m.tables.length) (st:=λi=>(i:Int)) (g:=λi=>some ((m.tables.drop i).any (graphT m.sorts c))) (λrec i hi hr=>?_) (λrec=>?_) n 0 (yC _) (by omega)
  ·simpa using this
  ·simp only [ref13_graph.l1,lt_len hi,if_true,idx_nat hi,yb,add64_1 (i:=i) (by omega),hr];rw [drop_cons hi,List.any_cons];have hcol:=hc _ (yt hi);by_cases h2:(m.tables[i].kind==0&&((m.tables[i].columns.length:Int)==2))=true
   ·have h2':=h2;simp only [yc,beq_iff_eq] at h2';obtain ⟨⟨x,hx⟩,⟨y,hy⟩,z,hz⟩:=graph_cols hcol h2'.2;rw [hx] at hz;simp only [yh] at hz;simp only [h2,hx,hy,hz,grd,yj,yx,if_true,yh,yA,graphT];cases (x==y&&m.tables[i].first==c.first&&z==c.size) <;> simp
   ·simp only [yF] at h2;simp [h2,grd,graphT]
  ·simp [ref13_graph.l1]
 ·simp only [yF] at h;rw [h,yZ,if_pos (by
   simp only [uk,y8] at h;simp only [yw,yd,bne_iff_ne];omega)]
theorem EqualTerm_eq {n a b} (hl:a.length<1000000) (hn:1000000≤n):slices_Equal_LTerm_api_Term n a b=some (decide (a=b)):=by
 unfold slices_Equal_LTerm_api_Term;by_cases h:a.length=b.length
 ·rw [if_neg (by simp [h])];have:=loopF_g (body:=slices_Equal_LTerm_api_Term.l1 n a b) (len:=a.length) (st:=λi=>(i:Int)) (g:=λi=>some (decide (a.drop i=b.drop i))) (λrec i hi hr=>?_) (λrec=>?_) n 0 (yC _) (by omega)
  ·simpa using this
  ·have hib:i<b.length:=by omega
   simp only [slices_Equal_LTerm_api_Term.l1,lt_len hi,if_true,idx_nat hi,idx_nat hib,yb,add64_1 (i:=i) (by omega),hr];rw [drop_cons hi,drop_cons hib];by_cases e:a[i]=b[i]
   ·simp only [e,decide_true,ub,yk,if_false,List.cons.injEq,true_and]
   ·simp only [e,decide_false,uq,if_true,List.cons.injEq,false_and]
  ·simp [slices_Equal_LTerm_api_Term.l1,h]
 ·rw [if_pos (by simp;omega)];have:¬ a=b:=λe=>h (by rw [e])
  simp [this]
theorem SameTerms_eq {n a b} (hl:a.length<1000000) (hn:1000000≤n):ref11_SameTerms n a b=some (decide (a=b)):=by
 unfold ref11_SameTerms;by_cases h:a.length=b.length
 ·rw [if_neg (by simp [h])];have:=loopF_g (body:=ref11_SameTerms.l1 n a b) (len:=a.length) (st:=λi=>(i:Int)) (g:=λi=>some (decide (a.drop i=b.drop i))) (λrec i hi hr=>?_) (λrec=>?_) n 0 (yC _) (by omega)
  ·simpa using this
  ·have hib:i<b.length:=by omega
   simp only [ref11_SameTerms.l1,lt_len hi,if_true,idx_nat hi,idx_nat hib,yb,add64_1 (i:=i) (by omega),hr];rw [drop_cons hi,drop_cons hib];by_cases e:a[i]=b[i]
   ·simp only [e,decide_true,ub,yk,if_false,List.cons.injEq,true_and]
   ·simp only [e,decide_false,uq,if_true,List.cons.injEq,false_and]
  ·simp [ref11_SameTerms.l1,h]
 ·rw [if_pos (by simp;omega)];have:¬ a=b:=λe=>h (by rw [e])
  simp [this]
theorem single_eq {n r c f b} (hl:r.terms.length<1000000) (hn:1000000≤n):model_single n r c f b=some (decide (r=(⟨[⟨c,f⟩],b⟩:Row))):=by
 unfold model_single;rw [EqualTerm_eq hl hn,yb];congr 1;rw [Bool.eq_iff_iff];cases r;simp
theorem SameRow_eq {n a b} (hl:a.terms.length<1000000) (hn:1000000≤n):ref11_SameRow n a b=some (decide (a=b)):=by
 unfold ref11_SameRow;rw [SameTerms_eq hl hn];simp only [yj,yx,grd,if_true,yh];congr 1;rw [Bool.eq_iff_iff];cases a;cases b;simp [and_comm]
structure SmallM (m:Model):Prop where
 sorts:m.sorts.length≤8
 tables:m.tables.length≤6
 tab:∀ t∈m.tables,t.name.length≤40∧t.columns.length≤12
 families:m.families.length≤20
 fam:∀ s∈m.families,s.length≤40
 constraints:m.constraints.length≤60
 con:∀ c∈m.constraints,c.row.terms.length≤20
 operations:m.operations.length≤8
 op:∀ o∈m.operations,o.name.length≤40∧o.sorts.length≤6
 actions:m.actions.length≤30
 act:∀ a∈m.actions,a.arguments.length≤6∧a.effect.delta.length≤20∧a.effect.hold.length≤10∧a.effect.updates.length≤40∧∀ r∈a.effect.hold,r.terms.length≤20
 hides:m.hides.length≤12
def boundRow (l:List Range) (i:Nat):Row:=⟨[⟨((i / 2:Nat):Int),if i % 2=0 then -1 else 1⟩],if i % 2=0 then neg64 ((idx l ((i / 2:Nat):Int)).getD default).lo else ((idx l ((i / 2:Nat):Int)).getD default).hi⟩
def famP (m:Model) (c:Constraint):Bool:=decide (0≤c.family)&&decide (c.family<(m.families.length:Int))
def plainP (K:Nat) (c:Constraint):Bool:=(((c.kind==0)&&(c.first==0))&&(c.size==0))&&rowOK K c.row
def acyP (m:Model) (c:Constraint):Bool:=c.kind==1&&graphP m c
def conP (m:Model) (l:List Range) (i:Nat) (c:Constraint):Bool:=famP m c&&(plainP l.length c||acyP m c)&&(!decide (i / 2<l.length)||(c.kind==0&&decide (c.row=boundRow l i)))
def consP (m:Model) (l:List Range):Bool:=decide (m.constraints.length≤512)&&decide (2*l.length≤m.constraints.length)&&allR (λi=>conP m l i ((idx m.constraints (i:Int)).getD default)) 0 m.constraints.length
theorem quo2 {i:Nat} (h:i<1000000):quo64 (i:Int) 2=some ((i / 2:Nat):Int):=by
 unfold quo64;rw [if_neg (by decide),Int.tdiv_eq_ediv_of_nonneg (by omega),w64_id (by omega) (by omega)];congr 1
theorem rem2 {i:Nat}:rem64 (i:Int) 2=some ((i % 2:Nat):Int):=by
 unfold rem64;rw [if_neg (by decide),Int.tmod_eq_emod_of_nonneg (by omega)];congr 1
theorem mul2 {i:Nat} (h:i<1000000):mul64 2 (i:Int)=((2*i:Nat):Int):=by
 unfold mul64;rw [w64_id (by omega) (by omega)];omega
theorem model_constraints_eq {n:Nat} {m} {l:List Range} (hS:SmallM m) (hc:∀ t∈m.tables,t.columns.all (colOK m.sorts)=true) (hK:l.length<100000) (hn:1000000≤n):model_judge_constraints n ⟨m,l⟩=some (consP m l):=by
 have hcl:=hS.constraints;have htl:=hS.tables;unfold model_judge_constraints consP;simp only [mul2 (show l.length<1000000 by omega)];by_cases h0:(decide (m.constraints.length≤512)&&decide (2*l.length≤m.constraints.length))=true
 ·rw [h0,yA];simp only [yc,yd] at h0;rw [if_neg (by simp;omega)];have:=loopF_all (body:=model_judge_constraints.l1 n ⟨m,l⟩) (len:=m.constraints.length) (n:=n) (st:=λi=>(i:Int)) (λi=>conP m l i ((idx m.constraints (i:Int)).getD default)) (some false) (some true) (λrec i hi=>?_) (λrec=>?_) (by omega)
  ·simp only [Int.natCast_zero] at this;rw [this];cases allR (λi=>conP m l i ((idx m.constraints (i:Int)).getD default)) 0 m.constraints.length <;> rfl
  ·have hterms:=hS.con _ (yt hi);simp only [model_judge_constraints.l1,jn,lt_len hi,if_true,idx_nat hi,yb,model_index,yh,model_row_eq (j:=⟨m,l⟩) (r:=m.constraints[i].row) (show m.constraints[i].row.terms.length<1000000 by omega) hn,model_graph_eq (j:=⟨m,l⟩) (c:=m.constraints[i]) hc (show m.tables.length<1000000 by omega) hn,yj,yx,grd,quo2 (show i<1000000 by omega),rem2,single_eq (r:=m.constraints[i].row) (show m.constraints[i].row.terms.length<1000000 by omega) hn,add64_1 (i:=i) (by omega)];have hfam:(decide (0≤m.constraints[i].family)&&decide (m.constraints[i].family<(m.families.length:Int)))=famP m m.constraints[i]:=rfl;rw [hfam];cases hf:famP m m.constraints[i] with
   | false=>simp [conP,hf]
   | true=>
    simp only [ub,yk,if_false];have hrest:∀ (X:Bool),X=(plainP l.length m.constraints[i]||acyP m m.constraints[i]) →
      (if X=true then (if decide (((i / 2:Nat):Int)<(l.length:Int))=true then (idx l ((i / 2:Nat):Int)).bind λx81=>(if (((i % 2:Nat):Int)==0)=true then (if (m.constraints[i].kind != 0||!decide (m.constraints[i].row=(⟨[⟨((i / 2:Nat):Int),-1⟩],neg64 x81.lo⟩:Row)))=true then some false else rec ((i+1:Nat):Int)) else (if (m.constraints[i].kind != 0||!decide (m.constraints[i].row=(⟨[⟨((i / 2:Nat):Int),1⟩],x81.hi⟩:Row)))=true then some false else rec ((i+1:Nat):Int))) else rec ((i+1:Nat):Int)) else some false)=if conP m l i m.constraints[i]=true then rec ((i+1:Nat):Int) else some false:=by
     intro X hX;unfold conP;rw [hf,← hX];cases X with
     | false=>simp
     | true=>
      simp only [if_true,yA];by_cases hlt:i / 2<l.length
      ·rw [if_pos (lt_nat hlt),idx_nat hlt,yb];simp only [hlt,decide_true,ub,uj,boundRow,idx_nat hlt,yh];by_cases hm:i % 2=0
       ·rw [if_pos (by simp [hm])];simp only [hm,if_true];cases hkk:(m.constraints[i].kind==0) <;> simp [bne,hkk]
       ·rw [if_neg (by simp;omega)];simp only [hm,if_false];cases hkk:(m.constraints[i].kind==0) <;> simp [bne,hkk]
      ·rw [if_neg (by rw [ge_nat (by omega)];simp)];simp [hlt]
    by_cases hk:m.constraints[i].kind=0
    ·rw [if_pos (by simp [hk])];have hX:(plainP l.length m.constraints[i]||acyP m m.constraints[i])=((m.constraints[i].first==0&&m.constraints[i].size==0)&&rowOK l.length m.constraints[i].row):=by
      simp [plainP,acyP,hk]
     rw [← hrest _ hX.symm];cases h1:(m.constraints[i].first==0) <;> cases h2:(m.constraints[i].size==0) <;> cases h3:rowOK l.length m.constraints[i].row <;> simp [bne,h1,h2]
    ·rw [if_neg (by simp [hk])];have hX:(plainP l.length m.constraints[i]||acyP m m.constraints[i])=(m.constraints[i].kind==1&&graphP m m.constraints[i]):=by
      simp [plainP,acyP,hk]
     rw [← hrest _ hX.symm];cases h1:(m.constraints[i].kind==1) <;> cases h3:graphP m m.constraints[i] <;> simp [bne,h1]
  ·simp [model_judge_constraints.l1]
 ·rw [if_pos (by
   simp only [yc,yd] at h0;simp only [yw,yd];omega)]
  simp only [yF] at h0;rw [h0,yZ]
theorem consP_ref {m l} (h2:2*l.length≤m.constraints.length) :
  allR (λi=>conP m l i ((idx m.constraints (i:Int)).getD default)) 0 m.constraints.length=(allR (λi=>decide (((idx m.constraints ((2*i:Nat):Int)).getD default).row=boundRow l (2*i))&&decide (((idx m.constraints ((2*i+1:Nat):Int)).getD default).row=boundRow l (2*i+1))) 0 l.length
   && allR (λi=>famP m ((idx m.constraints (i:Int)).getD default)&&(plainP l.length ((idx m.constraints (i:Int)).getD default)||(decide (2*l.length≤i)&&acyP m ((idx m.constraints (i:Int)).getD default)))) 0 m.constraints.length):=by
 rw [Bool.eq_iff_iff,yc,allR_0,allR_0,allR_0];constructor
 ·intro h;refine ⟨λj hj=>?_,λi hi=>?_⟩
  ·have ha:=h (2*j) (by omega);have hb:=h (2*j+1) (by omega);simp only [conP,yc,yw,yy,yE,yd] at ha hb ⊢;rcases ha.2 with e | e
   ·omega
   rcases hb.2 with f | f
   ·omega
   exact ⟨e.2,f.2⟩
  ·have ha:=h i hi;simp only [conP,yc,yw,yy,yE,yd] at ha ⊢;refine ⟨ha.1.1,?_⟩;rcases ha.1.2 with e | e
   ·exact .inl e
   ·refine .inr ⟨?_,e⟩;rcases ha.2 with f | f
    ·omega
    ·simp only [acyP,yc,beq_iff_eq] at e;have:=f.1;simp only [beq_iff_eq] at this;omega
 ·rintro ⟨ha,hb⟩ i hi;have hb:=hb i hi;simp only [conP,yc,yw,yy,yE,yd] at hb ⊢;refine ⟨⟨hb.1,hb.2.imp id (·.2)⟩,?_⟩;by_cases hlt:i / 2<l.length
  ·right;have ha:=ha (i / 2) hlt;simp only [yc,yd] at ha;rcases hb.2 with e | e
   ·refine ⟨?_,?_⟩
    ·simp only [plainP,yc] at e;exact e.1.1.1
    ·by_cases hm:i % 2=0
     ·have:=ha.1
      rwa [show 2*(i / 2)=i by omega] at this
     ·have:=ha.2
      rwa [show 2*(i / 2)+1=i by omega] at this
   ·omega
  ·exact .inl hlt
theorem ref13_constraints_eq {n:Nat} {m} (hS:SmallM m) (hL:layoutP m.sorts m.tables=true) (hn:1000000≤n):ref13_constraints n m=some (consP m (rangesP m.sorts true m.tables)):=by
 have hcl:=hS.constraints;have htl:=hS.tables;have hsl:=hS.sorts;obtain ⟨l1,l2,l3,l4⟩:=layoutP_tab hL;have hlen:=rangesP_len (sizes:=m.sorts) (s:=true) (l:=m.tables) λx hx=>(l4 x hx).2.2.2.2
 unfold ref13_constraints ref13_strict consP;rw [ref09_Ranges_eq hn (by omega) (by omega) (λt ht=>by have:=hS.tab t ht;omega),hL,if_pos rfl];generalize rangesP m.sorts true m.tables=l at hlen;simp only [yb,mul2 (show l.length<1000000 by omega)];by_cases h0:(decide (m.constraints.length≤512)&&decide (2*l.length≤m.constraints.length))=true
 ·rw [h0,yA];simp only [yc,yd] at h0;rw [if_neg (by simp;omega),consP_ref h0.2];have first:=loopF_all (body:=ref13_constraints.l1 n m l) (len:=l.length) (n:=n) (st:=λi=>(i:Int)) (λi=>decide (((idx m.constraints ((2*i:Nat):Int)).getD default).row=boundRow l (2*i))&&decide (((idx m.constraints ((2*i+1:Nat):Int)).getD default).row=boundRow l (2*i+1))) (some false) (loopF (ref13_constraints.l2 n m l) n 0) (λrec i hi=>?_) (λrec=>?_) (by omega)
  ·simp only [Int.natCast_zero] at first
   rw [first];have second:=loopF_all (body:=ref13_constraints.l2 n m l) (len:=m.constraints.length) (n:=n) (st:=λi=>(i:Int)) (λi=>famP m ((idx m.constraints (i:Int)).getD default)&&(plainP l.length ((idx m.constraints (i:Int)).getD default)||(decide (2*l.length≤i)&&acyP m ((idx m.constraints (i:Int)).getD default)))) (some false) (some true) (λrec i hi=>?_) (λrec=>?_) (by omega)
   ·simp only [Int.natCast_zero] at second;rw [second];cases allR (λi=>decide (((idx m.constraints ((2*i:Nat):Int)).getD default).row=boundRow l (2*i))&&decide (((idx m.constraints ((2*i+1:Nat):Int)).getD default).row=boundRow l (2*i+1))) 0 l.length <;> cases allR (λi=>famP m ((idx m.constraints (i:Int)).getD default)&&(plainP l.length ((idx m.constraints (i:Int)).getD default)||(decide (2*l.length≤i)&&acyP m ((idx m.constraints (i:Int)).getD default)))) 0 m.constraints.length <;> rfl
   ·have hterms:=hS.con _ (yt hi);have hd:decide (mul64 2 (l.length:Int)≤(i:Int))=decide (2*l.length≤i):=by rw [mul2 (by omega)];exact decide_eq_decide.2 (by omega)
    simp only [ref13_constraints.l2,lt_len hi,if_true,idx_nat hi,yb,yh,ref_row_eq (r:=m.constraints[i].row) (show m.constraints[i].row.terms.length<1000000 by omega) hn,ref_graph_eq (m:=m) (c:=m.constraints[i]) (λt ht=>(l4 t ht).2.2.2.1) (show m.tables.length<1000000 by omega) hn,yj,yx,grd,add64_1 (i:=i) (by omega),hd];have hfam:(decide (m.constraints[i].family<0)||decide ((m.families.length:Int)≤m.constraints[i].family)) = !famP m m.constraints[i]:=by
     unfold famP;rw [Bool.not_and,← decide_not,← decide_not];congr 1
     ·exact decide_eq_decide.2 (by omega)
     ·exact decide_eq_decide.2 (by omega)
    rw [hfam];cases famP m m.constraints[i] with
    | false=>simp
    | true=>
     have hp:((((m.constraints[i].kind==0)&&(m.constraints[i].first==0))&&(m.constraints[i].size==0))&&rowOK l.length m.constraints[i].row)=plainP l.length m.constraints[i]:=rfl;rw [hp];unfold acyP;cases plainP l.length m.constraints[i] <;> cases decide (2*l.length≤i) <;> cases (m.constraints[i].kind==1) <;> cases graphP m m.constraints[i] <;> simp
   ·simp [ref13_constraints.l2]
  ·have h2i:2*i<m.constraints.length:=by omega
   have h2j:2*i+1<m.constraints.length:=by omega
   have t1:=hS.con _ (yt h2i);have t2:=hS.con _ (yt h2j);have e1:boundRow l (2*i)=⟨[⟨(i:Int),-1⟩],neg64 l[i].lo⟩:=by
    unfold boundRow;rw [show 2*i / 2=i by omega,if_pos (by omega),if_pos (by omega),idx_nat hi];rfl
   have e2:boundRow l (2*i+1)=⟨[⟨(i:Int),1⟩],l[i].hi⟩:=by
    unfold boundRow;rw [show (2*i+1) / 2=i by omega,if_neg (by omega),if_neg (by omega),idx_nat hi];rfl
   have hadd:add64 ((2*i:Nat):Int) 1=((2*i+1:Nat):Int):=add64_1 (by omega);simp only [ref13_constraints.l1,lt_len hi,if_true,idx_nat hi,mul2 (show i<1000000 by omega),idx_nat h2i,hadd,idx_nat h2j,yb,yh,SameRow_eq (show m.constraints[2*i].row.terms.length<1000000 by omega) hn,SameRow_eq (show m.constraints[2*i+1].row.terms.length<1000000 by omega) hn,yj,yx,grd,add64_1 (i:=i) (by omega),e1,e2];cases decide (m.constraints[2*i].row=⟨[⟨(i:Int),-1⟩],neg64 l[i].lo⟩) <;> cases decide (m.constraints[2*i+1].row=⟨[⟨(i:Int),1⟩],l[i].hi⟩) <;> simp
  ·simp [ref13_constraints.l1]
 ·rw [if_pos (by
   simp only [yc,yd] at h0;simp only [yw,yd];omega)]
  simp only [yF] at h0;rw [h0,yZ]
theorem loopF_lall {α S R:Type} {body:(S→Option R)→S→Option R} {l:List α} {n:Nat} {st:Nat→S} (p:α→Bool) (F T:Option R)
  (hb:∀ rec i (hi:i<l.length),body rec (st i)=if p l[i]=true then rec (st (i+1)) else F) (he:∀ rec,body rec (st l.length)=T) (hn:l.length<n):loopF body n (st 0)=if l.all p=true then T else F:=by
 have:=loopF_g (body:=body) (len:=l.length) (st:=st) (g:=λi=>if (l.drop i).all p=true then T else F) (λrec i hi hr=>?_) (λrec=>?_) n 0 (yC _) (by omega)
 ·simpa using this
 ·rw [hb rec i hi,drop_cons hi,um,hr];cases p l[i] <;> simp
 ·rw [he];simp
def sizeAt (sizes:List Int) (c:Int):Int:=sizes.getD c.toNat 0
def digR (sizes:List Int):List Int→Int→List Int
 | [],_=>[]
 | c::l,k=>k.tmod (sizeAt sizes c)::digR sizes l (w64 (k.tdiv (sizeAt sizes c)))
def tupleP (sizes cols:List Int) (k:Int):List Int:=(digR sizes cols.reverse k).reverse
theorem sizeAt_ne {sizes:List Int} (hs:sizes.all sizeOK=true) {c:Int} (hc:colOK sizes c=true):1≤sizeAt sizes c∧sizeAt sizes c≤6:=by
 simp only [colOK,yc,yd] at hc;obtain ⟨k,rfl⟩:=yT hc.1;have hk:k<sizes.length:=by omega
 have hz:=yr.1 hs _ (yt hk);simp only [sizeOK,yc,yd] at hz;have hg:sizeAt sizes (k:Int)=sizes[k]:=by simp [sizeAt,List.getD,hk]
 rw [hg];exact hz
theorem sto_mid {r:Nat} {done:List Int} {x:Int}:sto (List.replicate (r+1) 0++done) (r:Int) x=some (List.replicate r 0++x::done):=by
 unfold sto;rw [if_pos (by simp;omega)];simp only [yz,yf];rw [List.replicate_succ',yP,List.set_append_right _ _ (by simp)];simp
theorem idx_mid {r:Nat} {done:List Int}:∃ x,idx (List.replicate (r+1) 0++done) (r:Int)=some x:=⟨_,idx_nat (by simp;omega)⟩
theorem take_rev {α:Type} {l:List α} {r:Nat} (h:r<l.length):(l.take (r+1)).reverse=l[r]::(l.take r).reverse:=by
 rw [yI h];simp
theorem cells_digits {n:Nat} {sizes:List Int} {t:Table} {i:Int} (hs:sizes.all sizeOK=true) (hc:t.columns.all (colOK sizes)=true) (hl:t.columns.length<1000000):∀ (m r:Nat) (done:List Int) (k:Int),r<m→r≤t.columns.length →
  loopF (cells_Tuple.l2 n sizes i t) m (List.replicate r 0++done,k,(r:Int) - 1)=some (i,(digR sizes (t.columns.take r).reverse k).reverse++done,true)
 | 0,_,_,_,h,_=>by omega
 | m+1,0,done,k,_,_=>by simp [loopF,cells_Tuple.l2,digR]
 | m+1,r+1,done,k,h,hr=>by
  have hrl:r<t.columns.length:=by omega
  have hcol:=yr.1 hc _ (yt hrl);have hsz:=sizeAt_ne hs hcol;have e:(((r+1:Nat):Int)) - 1=(r:Int):=by omega
  obtain ⟨x,hx⟩:=idx_mid (r:=r) (done:=done);have hrem:rem64 k (sizeAt sizes t.columns[r])=some (k.tmod (sizeAt sizes t.columns[r])):=by unfold rem64;rw [if_neg (by omega)]
  have hquo:quo64 k (sizeAt sizes t.columns[r])=some (w64 (k.tdiv (sizeAt sizes t.columns[r]))):=by unfold quo64;rw [if_neg (by omega)]
  have hcs:=idx_col hcol;have hsub:sub64 (r:Int) 1=(r:Int) - 1:=by unfold sub64;rw [w64_id (by omega) (by omega)]
  have hd:decide (0≤(r:Int))=true:=by simp
  unfold sizeAt at hrem hquo;simp only [loopF,cells_Tuple.l2,e,hd,if_true,idx_nat hrl,hcs,hrem,hquo,hx,sto_mid,yb,hsub];rw [cells_digits hs hc hl m r _ _ (by omega) (by omega),take_rev hrl];simp only [digR,sizeAt,List.reverse_cons,yP,List.singleton_append]
theorem ref_digits {n:Nat} {sizes cols:List Int} (hs:sizes.all sizeOK=true) (hc:cols.all (colOK sizes)=true) (hl:cols.length<1000000):∀ (m r:Nat) (done:List Int) (k:Int),r<m→r≤cols.length →
  loopF (ref09_nth.l1 n sizes cols) m (List.replicate r 0++done,k,(r:Int) - 1)=some ((digR sizes (cols.take r).reverse k).reverse++done)
 | 0,_,_,_,h,_=>by omega
 | m+1,0,done,k,_,_=>by simp [loopF,ref09_nth.l1,digR]
 | m+1,r+1,done,k,h,hr=>by
  have hrl:r<cols.length:=by omega
  have hcol:=yr.1 hc _ (yt hrl);have hsz:=sizeAt_ne hs hcol;have e:(((r+1:Nat):Int)) - 1=(r:Int):=by omega
  obtain ⟨x,hx⟩:=idx_mid (r:=r) (done:=done);have hrem:rem64 k (sizeAt sizes cols[r])=some (k.tmod (sizeAt sizes cols[r])):=by unfold rem64;rw [if_neg (by omega)]
  have hquo:quo64 k (sizeAt sizes cols[r])=some (w64 (k.tdiv (sizeAt sizes cols[r]))):=by unfold quo64;rw [if_neg (by omega)]
  have hcs:=idx_col hcol;have hsub:sub64 (r:Int) 1=(r:Int) - 1:=by unfold sub64;rw [w64_id (by omega) (by omega)]
  have hd:decide (0≤(r:Int))=true:=by simp
  unfold sizeAt at hrem hquo;simp only [loopF,ref09_nth.l1,e,hd,if_true,idx_nat hrl,hcs,hrem,hquo,hx,sto_mid,yb,hsub];rw [ref_digits hs hc hl m r _ _ (by omega) (by omega),take_rev hrl];simp only [digR,sizeAt,List.reverse_cons,yP,List.singleton_append]
theorem mkl_0 {b k:Nat} (h:k*b≤140737488355328):mkl b (k:Int) (0:Int)=some (List.replicate k 0):=by
 have e:((k*b:Nat):Int)=(k:Int)*(b:Int):=uu k b;unfold mkl;rw [if_pos ⟨by omega,by omega⟩];simp
theorem sub64_len {k:Nat} (h:k<1000000):sub64 (k:Int) 1=(k:Int) - 1:=by
 unfold sub64;rw [w64_id (by omega) (by omega)]
theorem ref09_nth_eq {n:Nat} {sizes cols:List Int} {k:Int} (hs:sizes.all sizeOK=true) (hc:cols.all (colOK sizes)=true) (hl:cols.length≤1000) (hn:1000000≤n):ref09_nth n sizes cols k=some (tupleP sizes cols k):=by
 unfold ref09_nth;rw [mkl_0 (by omega),yb,sub64_len (by omega)];have:=ref_digits (n:=n) hs hc (by omega) n cols.length [] k (by omega) (ym _);simpa [tupleP] using this
def hitP (sizes:List Int) (s:Bool) (cell:Int) (t:Table):Bool:=(strictP t.kind==s)&&(decide (0≤sub64 cell t.first)&&decide (sub64 cell t.first<widthP sizes t.columns 1))
def resT (sizes:List Int) (s:Bool) (cell:Int):List Table→Nat→Int×List Int×Bool
 | [],_=>(0,[],false)
 | t::l,i=>if hitP sizes s cell t=true then ((i:Int),tupleP sizes t.columns (sub64 cell t.first),true) else resT sizes s cell l (i+1)
def cellP (sizes:List Int) (tables:List Table) (s:Bool) (cell:Int):Int×List Int×Bool:=if (layoutP sizes tables&&decide (0≤cell))=true then resT sizes s cell tables 0 else (0,[],false)
theorem cells_Tuple_eq {n:Nat} {sizes:List Int} {tables:List Table} {s:Bool} {cell:Int} (hF:Fuel n) (hs:sizes.length≤1000) (ht:tables.length≤1000) (hc:∀ t∈tables,t.columns.length≤1000):cells_Tuple n sizes tables s cell=some (cellP sizes tables s cell):=by
 have hn:=hF.big;unfold cells_Tuple cellP;rw [cells_Valid_eq hF hs ht hc,yb];cases hL:layoutP sizes tables with
 | false=>simp
 | true=>
  obtain ⟨l1,l2,l3,l4⟩:=layoutP_tab hL;by_cases h0:0≤cell
  ·rw [if_neg (by simp;omega),if_pos (by simp [h0])];have:=loopF_g (body:=cells_Tuple.l1 n sizes tables s cell) (len:=tables.length) (st:=λi=>(i:Int)) (g:=λi=>some (resT sizes s cell (tables.drop i) i)) (λrec i hi hr=>?_) (λrec=>?_) n 0 (yC _) (by omega)
   ·simpa using this
   ·obtain ⟨-,-,c1,c2,c3,c4⟩:=l4 _ (yt hi);simp only [cells_Tuple.l1,lt_len hi,if_true,idx_nat hi,yb,cells_isStrict,cells_width_eq c2 (show tables[i].columns.length<4611686018427387904 by omega) (show tables[i].columns.length<n by omega),yj,yx,grd,yh,add64_1 (i:=i) (by omega),hr,mkl_0 (b:=8) (k:=tables[i].columns.length) (by omega),uf,sub64_len (show tables[i].columns.length<1000000 by omega)];have hdig:=cells_digits (n:=n) (i:=(i:Int)) l3 c2 (by omega) n tables[i].columns.length [] (sub64 cell tables[i].first) (by omega) (ym _);simp only [uE,List.take_length] at hdig;rw [hdig,drop_cons hi,resT];have hh:(((tables[i].kind==0||tables[i].kind==1) != s||decide (sub64 cell tables[i].first<0))||decide (widthP sizes tables[i].columns 1≤sub64 cell tables[i].first)) = !hitP sizes s cell tables[i]:=by
     unfold hitP strictP;rw [Bool.not_and,Bool.not_and,← decide_not,← decide_not,Bool.or_assoc];congr 1;congr 1
     ·exact decide_eq_decide.2 (by omega)
     ·exact decide_eq_decide.2 (by omega)
    rw [hh];cases hitP sizes s cell tables[i] <;> simp [tupleP]
   ·simp [cells_Tuple.l1,resT]
  ·rw [if_pos (by simp;omega),if_neg (by simp;omega)]
theorem ref09_Tuple_eq {n:Nat} {sizes:List Int} {tables:List Table} {s:Bool} {cell:Int} (hn:1000000≤n) (hs:sizes.length≤1000) (ht:tables.length≤1000) (hc:∀ t∈tables,t.columns.length≤1000∧t.name.length≤4096):ref09_Tuple n sizes tables s cell=some (cellP sizes tables s cell):=by
 unfold ref09_Tuple cellP;rw [ref09_Valid_eq hn hs ht hc,yb];cases hL:layoutP sizes tables with
 | false=>simp
 | true=>
  obtain ⟨l1,l2,l3,l4⟩:=layoutP_tab hL;rw [if_neg (by simp)];have:=loopF_g (body:=ref09_Tuple.l1 n sizes tables s cell) (len:=tables.length) (st:=λi=>(i:Int)) (g:=λi=>some (if decide (0≤cell)=true then resT sizes s cell (tables.drop i) i else (0,[],false))) (λrec i hi hr=>?_) (λrec=>?_) n 0 (yC _) (by omega)
  ·simpa using this
  ·obtain ⟨-,-,c1,c2,c3,c4⟩:=l4 _ (yt hi);have hnum:=ref09_number_eq (n:=n) (sizes:=sizes) (cols:=tables[i].columns) (by omega) (by omega) (by omega) (by omega);simp only [l3,c2,c1,decide_true,uw,if_true] at hnum;simp only [ref09_Tuple.l1,lt_len hi,if_true,idx_nat hi,yb,ref09_strict,hnum,yj,yx,grd,yh,add64_1 (i:=i) (by omega),hr,ref09_nth_eq l3 c2 (show tables[i].columns.length≤1000 by omega) hn];rw [drop_cons hi,resT];unfold hitP strictP;cases decide (0≤cell) with
   | false=>simp
   | true=>
    simp only [if_true,uw];by_cases h1:((tables[i].kind==0||tables[i].kind==1)==s&&decide (0≤sub64 cell tables[i].first)&&decide (sub64 cell tables[i].first<widthP sizes tables[i].columns 1))=true
    ·rw [if_pos h1,if_pos (by rw [← Bool.and_assoc];exact h1)]
    ·rw [if_neg h1,if_neg (by rw [← Bool.and_assoc];exact h1)]
  ·simp [ref09_Tuple.l1,resT]
theorem resT_lt {sizes:List Int} {s:Bool} {cell:Int}:∀ (l:List Table) (i:Nat),(resT sizes s cell l i).2.2=true→∃ k:Nat,(resT sizes s cell l i).1=(k:Int)∧i≤k∧k<i+l.length
 | [],_,h=>by simp [resT] at h
 | t::l,i,h=>by
  rw [resT] at h ⊢;split at h
  ·rename_i hh;rw [if_pos hh];exact ⟨i,rfl,ym _,by simp⟩
  ·rename_i hh;rw [if_neg hh];obtain ⟨k,e,k1,k2⟩:=resT_lt l (i+1) h;exact ⟨k,e,by omega,by simp only [yR];omega⟩
theorem cellP_idx {sizes:List Int} {tables:List Table} {s:Bool} {cell:Int} (h:(cellP sizes tables s cell).2.2=true):∃ t,idx tables (cellP sizes tables s cell).1=some t:=by
 unfold cellP at h ⊢;split at h
 ·rename_i hh;rw [if_pos hh];obtain ⟨k,e,-,k2⟩:=resT_lt tables 0 h;rw [e];exact ⟨_,idx_nat (by omega)⟩
 ·simp at h
theorem cellP_neg {sizes:List Int} {tables:List Table} {s:Bool} {cell:Int} (h:cell<0):(cellP sizes tables s cell).2.2=false:=by
 unfold cellP;rw [if_neg (by simp;omega)]
def updT (t:Table) (u:Update):Bool:=if (t.kind==2||t.kind==3)=true then ((u.kind==0)||(u.kind==1))&&(u.value==0) else ((u.kind==2)&&decide (t.range.lo≤u.value))&&decide (u.value≤t.range.hi)
def updP (m:Model) (u:Update):Bool:=(cellP m.sorts m.tables false u.cell).2.2&&updT ((idx m.tables (cellP m.sorts m.tables false u.cell).1).getD default) u
def updsP (m:Model):Int→List Update→Bool
 | _,[]=>true
 | last,u::l=>(decide (last<u.cell)&&updP m u)&&updsP m u.cell l
theorem model_update_eq {n:Nat} {m:Model} {l:List Range} {u:Update} (hF:Fuel n) (hS:SmallM m):model_judge_update n ⟨m,l⟩ u=some (updP m u):=by
 unfold model_judge_update updP;have hs:=hS.sorts;have ht:=hS.tables;simp only [];rw [cells_Tuple_eq hF (by omega) (by omega) (λt h=>by have:=hS.tab t h;omega),yb];cases hok:(cellP m.sorts m.tables false u.cell).2.2 with
 | false=>simp
 | true=>
  obtain ⟨t,ht⟩:=cellP_idx hok;simp only [ht,ub,yk,if_false,yb,yh,yA,jn,updT];by_cases h2:t.kind=2
  ·simp [h2]
  ·by_cases h3:t.kind=3
   ·simp [h3]
   ·simp [h2,h3]
def opP (m:Model) (o:Operation):Bool:=decide (o.sorts.length≤3)&&o.sorts.all λs=>decide (-1≤s)&&decide (s<(m.sorts.length:Int))
def opsP (m:Model):Bool:=m.operations.all (opP m)&&(decide (m.operations.length≤8)&&distP [] (m.operations.map (·.name)))
theorem map_take_snoc {α β:Type} {f:α→β} {l:List α} {i:Nat} (hi:i<l.length):(l.take i).map f++[f l[i]]=(l.take (i+1)).map f:=by
 rw [yI hi,ui];rfl
theorem model_operations_eq {n:Nat} {m:Model} {l:List Range} (hF:Fuel n) (hS:SmallM m):model_judge_operations n ⟨m,l⟩=some (opsP m):=by
 have hn:=hF.big;have hol:=hS.operations;unfold model_judge_operations opsP;have:=loopF_lall (body:=model_judge_operations.l1 n ⟨m,l⟩) (l:=m.operations) (n:=n) (st:=λi=>((m.operations.take i).map (·.name),(i:Int))) (opP m) (some false) (some (decide (m.operations.length≤8)&&distP [] (m.operations.map (·.name)))) (λrec i hi=>?_) (λrec=>?_) (by omega)
 ·simp only [List.take_zero,List.map_nil,Int.natCast_zero] at this;rw [this];cases m.operations.all (opP m) <;> rfl
 ·have hop:=hS.op _ (yt hi);simp only [model_judge_operations.l1,lt_len hi,if_true,idx_nat hi,yb];rw [app_some (by simp;omega),yb,ContainsFunc_Lint_eq (p:=λs=>!(decide (-1≤s)&&decide (s<(m.sorts.length:Int)))) (λx _=>by
   simp only [model_judge_operations_1,yf,Bool.not_and,← decide_not];congr 1
   ·exact decide_eq_decide.2 (by omega)
   ·exact decide_eq_decide.2 (by omega)) (by omega) (by omega)]
  simp only [yj,yx,grd,if_true,yh,add64_1 (i:=i) (by omega),map_take_snoc hi];have h3:decide (3<(m.operations[i].sorts.length:Int)) = !decide (m.operations[i].sorts.length≤3):=by rw [← decide_not];exact decide_eq_decide.2 (by omega)
  rw [h3,← Bool.not_not (m.operations[i].sorts.any _),any_not,← Bool.not_and];unfold opP;cases (decide (m.operations[i].sorts.length≤3)&&m.operations[i].sorts.all λs=>decide (-1≤s)&&decide (s<(m.sorts.length:Int))) <;> rfl
 ·simp only [model_judge_operations.l1,ge_len,yk,if_false,List.take_length];rw [model_distinct_eq hF (by simp;omega)];simp only [yj,yx,grd,if_true,yh,yO,yf];congr 1;exact decide_eq_decide.2 (by omega)
def deltaP (K:Nat):Int→List Change→Bool
 | _,[]=>true
 | last,d::l=>(decide (last<d.cell)&&decide (d.cell<(K:Int))&&(d.add != 0)&&aroundP d.add 1000000000)&&deltaP K d.cell l
def effP (m:Model) (K:Nat) (x:Effect):Bool:=deltaP K (-1) x.delta&&(updsP m (-1) x.updates&&(decide (x.hold.length≤8)&&decide (x.updates.length≤32)&&x.hold.all (rowOK K)))
theorem model_effect_eq {n m l x} (hF:Fuel n) (hS:SmallM m) (h1:x.delta.length≤1000) (h2:x.updates.length≤1000) (h3:x.hold.length≤1000) (h4:∀ r∈x.hold,r.terms.length≤1000):model_judge_effect n ⟨m,l⟩ x=some (effP m l.length x):=by
 have hn:=hF.big;have T:loopF (model_judge_effect.l2 n ⟨m,l⟩ x) n (-1,0)=some (updsP m (-1) x.updates&&(decide (x.hold.length≤8)&&decide (x.updates.length≤32)&&x.hold.all (rowOK l.length))):=by
  have:=loopF_I (body:=model_judge_effect.l2 n ⟨m,l⟩ x) (len:=x.updates.length) (st:=λ(s:Int) i=>(s,(i:Int))) (g:=λi s=>some (updsP m s (x.updates.drop i)&&(decide (x.hold.length≤8)&&decide (x.updates.length≤32)&&x.hold.all (rowOK l.length)))) (λ_ _=>True) (λrec i s hi _ hr=>?_) (λrec s _=>?_) n 0 (-1) (yC _) (by omega) trivial
  ·simpa using this
  ·simp only [model_judge_effect.l2,lt_len hi,if_true,idx_nat hi,yb,model_update_eq hF hS,yj,yx,grd,yh,add64_1 (i:=i) (by omega),hr x.updates[i].cell trivial];rw [drop_cons hi,updsP];by_cases hlt:s<x.updates[i].cell
   ·have hd:decide (x.updates[i].cell≤s)=false:=by simp;omega
    rw [hd];cases updP m x.updates[i] <;> simp [hlt]
   ·have hd:decide (x.updates[i].cell≤s)=true:=by simp;omega
    rw [hd];simp [hlt]
  ·have hc:slices_ContainsFunc_LRow_api_Row n x.hold (λq0=>model_judge_effect_1 n q0 ⟨m,l⟩)=some (x.hold.any λr=>!rowOK l.length r):=ContainsFunc_LRow_api_Row_eq (λr hr=>by
    unfold model_judge_effect_1;rw [model_row_eq (by have:=h4 r hr;omega) (by omega)];rfl) (by omega) (by omega)
   simp only [model_judge_effect.l2,ge_len,yk,if_false,hc,yj,yx,grd,if_true,yh,any_not,List.drop_length,updsP,yA,yf];congr 2
   ·exact decide_eq_decide.2 (by omega)
   ·exact decide_eq_decide.2 (by omega)
 have:=loopF_I (body:=model_judge_effect.l1 n ⟨m,l⟩ x) (len:=x.delta.length) (st:=λ(s:Int) i=>(s,(i:Int))) (g:=λi s=>some (deltaP l.length s (x.delta.drop i)&&(updsP m (-1) x.updates&&(decide (x.hold.length≤8)&&decide (x.updates.length≤32)&&x.hold.all (rowOK l.length))))) (λ_ _=>True) (λrec i s hi _ hr=>?_) (λrec s _=>?_) n 0 (-1) (yC _) (by omega) trivial
 ·simpa [model_judge_effect,effP] using this
 ·simp only [model_judge_effect.l1,lt_len hi,if_true,idx_nat hi,yb,around9,yj,yx,grd,yh,add64_1 (i:=i) (by omega),hr x.delta[i].cell trivial];rw [drop_cons hi,deltaP];by_cases h:(decide (s<x.delta[i].cell)&&decide (x.delta[i].cell<(l.length:Int))&&(x.delta[i].add != 0)&&aroundP x.delta[i].add 1000000000)=true
  ·rw [h,yA];simp only [yc,yd,bne_iff_ne] at h;rw [if_neg (by simp [h.2,h.1.2];omega)]
  ·rw [if_pos (by
    simp only [yc,yd,bne_iff_ne,ne_eq] at h;simp only [yw,yd,beq_iff_eq,yy,← yF];by_cases ha:aroundP x.delta[i].add 1000000000=true
    ·left;simp only [ha,and_true] at h;omega
    ·exact .inr ha)]
   simp only [yF] at h;rw [h];rfl
 ·simp only [model_judge_effect.l1,ge_len,yk,if_false,T,List.drop_length,deltaP,yA]
theorem ref_effect_eq {n m x} (hn:1000000≤n) (hS:SmallM m) (hL:layoutP m.sorts m.tables=true) (h1:x.delta.length≤1000) (h2:x.updates.length≤1000) (h3:x.hold.length≤1000) (h4:∀ r∈x.hold,r.terms.length≤1000):ref13_effect n m x=some (effP m (rangesP m.sorts true m.tables).length x):=by
 have htl:=hS.tables;have hsl:=hS.sorts;have hcs:∀ t∈m.tables,t.columns.length≤1000∧t.name.length≤4096:=λt ht=>by have:=hS.tab t ht;omega
 unfold ref13_effect ref13_strict;rw [ref09_Ranges_eq hn (by omega) (by omega) hcs,hL,if_pos rfl];generalize rangesP m.sorts true m.tables=l;simp only [yb];have T3:loopF (ref13_effect.l3 n m x) n 0=some (updsP m (-1) x.updates&&(decide (x.hold.length≤8)&&decide (x.updates.length≤32))):=by
  have:=loopF_I (body:=ref13_effect.l3 n m x) (len:=x.updates.length) (st:=λ(_:Int) i=>(i:Int)) (g:=λi s=>some (updsP m s (x.updates.drop i)&&(decide (x.hold.length≤8)&&decide (x.updates.length≤32)))) (λi s=>-1≤s∧((i=0∧s = -1)∨(0<i∧∃ y,idx x.updates (sub64 (i:Int) 1)=some y∧y.cell=s))) (λrec i s hi hI hr=>?_) (λrec s _=>?_) n 0 (-1) (yC _) (by omega) ⟨by omega,.inl ⟨rfl,rfl⟩⟩
  ·simpa using this
  ·obtain ⟨h1,h2⟩:=hI;have hprev:(decide (0<(i:Int))&&decide (x.updates[i].cell≤((idx x.updates (sub64 (i:Int) 1)).getD default).cell))=(decide (0<i)&&decide (x.updates[i].cell≤s))∧(!(decide (0<(i:Int)))||(idx x.updates (sub64 (i:Int) 1)).isSome)=true:=by
    rcases h2 with ⟨h2,h3⟩ | ⟨h2,y,h3,h4⟩
    ·subst h2;simp
    ·rw [h3];simp [h4,h2]
   have hnext:(-1≤x.updates[i].cell)→rec ((i+1:Nat):Int)=some (updsP m x.updates[i].cell (x.updates.drop (i+1))&&(decide (x.hold.length≤8)&&decide (x.updates.length≤32))):=λh=>hr x.updates[i].cell ⟨h,.inr ⟨by omega,x.updates[i],by
     rw [sub64_1 (by omega) (by omega),show i+1 - 1=i by omega,idx_nat hi],rfl⟩⟩
   simp only [ref13_effect.l3,lt_len hi,if_true,idx_nat hi,yb,ref09_Tuple_eq (cell:=x.updates[i].cell) (s:=false) hn (show m.sorts.length≤1000 by omega) (show m.tables.length≤1000 by omega) hcs,hprev.1,hprev.2,yx,grd,ref13_set,add64_1 (i:=i) (by omega)];rw [drop_cons hi,updsP];unfold updP;cases hok:(cellP m.sorts m.tables false x.updates[i].cell).2.2 with
   | false=>simp
   | true=>
    obtain ⟨t,ht⟩:=cellP_idx hok;have hge:0≤x.updates[i].cell:=by
     by_cases h:x.updates[i].cell<0
     ·rw [cellP_neg h] at hok;cases hok
     ·omega
    have hasc:(decide (0<i)&&decide (x.updates[i].cell≤s)) = !decide (s<x.updates[i].cell):=by
     rw [← decide_not,← Bool.decide_and];refine decide_eq_decide.2 ?_;rcases h2 with ⟨h2,h3⟩ | ⟨h2,-⟩ <;> omega
    rw [hasc,hnext (by omega)];simp only [ht,ub,uj,yb,yh,yA];cases decide (s<x.updates[i].cell) with
    | false=>simp
    | true=>
     simp only [ub,yk,if_false,yA];unfold updT;by_cases hset:(t.kind==2||t.kind==3)=true
     ·rw [hset];simp only [if_true,yA,ub,yZ,yk,if_false];cases hk0:(x.updates[i].kind==0) <;> cases hk1:(x.updates[i].kind==1) <;> cases hv:(x.updates[i].value==0) <;> simp [bne,hk0,hk1,hv]
     ·simp only [yF] at hset;rw [hset];simp only [yZ,yk,if_false,uq,yA];have e1:decide (x.updates[i].value<t.range.lo) = !decide (t.range.lo≤x.updates[i].value):=by rw [← decide_not];exact decide_eq_decide.2 (by omega)
      have e2:decide (t.range.hi<x.updates[i].value) = !decide (x.updates[i].value≤t.range.hi):=by rw [← decide_not];exact decide_eq_decide.2 (by omega)
      rw [e1,e2];cases hk0:(x.updates[i].kind==2) <;> cases decide (t.range.lo≤x.updates[i].value) <;> cases decide (x.updates[i].value≤t.range.hi) <;> simp [bne,hk0]
  ·simp only [ref13_effect.l3,ge_len,yk,if_false,List.drop_length,updsP,yA,yf];congr 1
   ·exact decide_eq_decide.2 (by omega)
   ·exact decide_eq_decide.2 (by omega)
 have T2:loopF (ref13_effect.l2 n m x l) n 0=if x.hold.all (rowOK l.length)=true then some (updsP m (-1) x.updates&&(decide (x.hold.length≤8)&&decide (x.updates.length≤32))) else some false:=by
  have:=loopF_lall (body:=ref13_effect.l2 n m x l) (l:=x.hold) (n:=n) (st:=λi=>(i:Int)) (rowOK l.length) (some false) (some (updsP m (-1) x.updates&&(decide (x.hold.length≤8)&&decide (x.updates.length≤32)))) (λrec i hi=>?_) (λrec=>?_) (by omega)
  ·simpa using this
  ·simp only [ref13_effect.l2,lt_len hi,if_true,idx_nat hi,yb,ref_row_eq (show x.hold[i].terms.length<1000000 by have:=h4 _ (yt hi);omega) hn,add64_1 (i:=i) (by omega)];cases rowOK l.length x.hold[i] <;> simp
  ·simp only [ref13_effect.l2,ge_len,yk,if_false,T3]
 have:=loopF_I (body:=ref13_effect.l1 n m x l) (len:=x.delta.length) (st:=λ(_:Int) i=>(i:Int)) (g:=λi s=>some (deltaP l.length s (x.delta.drop i)&&(updsP m (-1) x.updates&&(decide (x.hold.length≤8)&&decide (x.updates.length≤32)&&x.hold.all (rowOK l.length))))) (λi s=>-1≤s∧((i=0∧s = -1)∨(0<i∧∃ y,idx x.delta (sub64 (i:Int) 1)=some y∧y.cell=s))) (λrec i s hi hI hr=>?_) (λrec s _=>?_) n 0 (-1) (yC _) (by omega) ⟨by omega,.inl ⟨rfl,rfl⟩⟩
 ·simpa [effP] using this
 ·obtain ⟨h1,h2⟩:=hI;have hprev:(decide (0<(i:Int))&&decide (x.delta[i].cell≤((idx x.delta (sub64 (i:Int) 1)).getD default).cell))=(decide (0<i)&&decide (x.delta[i].cell≤s))∧(!(decide (0<(i:Int)))||(idx x.delta (sub64 (i:Int) 1)).isSome)=true:=by
   rcases h2 with ⟨h2,h3⟩ | ⟨h2,y,h3,h4⟩
   ·subst h2;simp
   ·rw [h3];simp [h4,h2]
  simp only [ref13_effect.l1,lt_len hi,if_true,idx_nat hi,yb,between9,yj,yx,grd,yh,hprev.1,hprev.2,add64_1 (i:=i) (by omega)];rw [drop_cons hi,deltaP];by_cases h:(decide (s<x.delta[i].cell)&&decide (x.delta[i].cell<(l.length:Int))&&(x.delta[i].add != 0)&&aroundP x.delta[i].add 1000000000)=true
  ·rw [h,yA];simp only [yc,yd,bne_iff_ne] at h;rw [if_neg (by simp [h.2,h.1.2];omega),hr x.delta[i].cell ⟨by omega,.inr ⟨by omega,x.delta[i],by
    rw [sub64_1 (by omega) (by omega),show i+1 - 1=i by omega,idx_nat hi],rfl⟩⟩]
  ·rw [if_pos (by
    simp only [yc,yd,bne_iff_ne,ne_eq] at h;simp only [yw,yc,yd,beq_iff_eq,yy,← yF];by_cases ha:aroundP x.delta[i].add 1000000000=true
    ·left;simp only [ha,and_true] at h;rcases h2 with ⟨h2,h3⟩ | ⟨h2,-⟩ <;> omega
    ·exact .inr ha)]
   simp only [yF] at h;rw [h];rfl
 ·simp only [ref13_effect.l1,ge_len,yk,if_false,T2,List.drop_length,deltaP,yA];cases x.hold.all (rowOK l.length) <;> simp
def cmpP:List Int→List Int→Int
 | [],[]=>0
 | [],_::_=>-1
 | _::_,[]=>1
 | x::l,y::k=>if x<y then -1 else if y<x then 1 else cmpP l k
def lessP:List Int→List Int→Bool
 | [],[]=>false
 | [],_::_=>true
 | _::_,[]=>false
 | x::l,y::k=>if x=y then lessP l k else decide (x<y)
theorem cmp_less:∀ a b:List Int,decide (0≤cmpP a b) = !lessP a b
 | [],[]=>rfl
 | [],_::_=>rfl
 | _::_,[]=>rfl
 | x::l,y::k=>by
  simp only [cmpP,lessP];by_cases h:x=y
  ·subst h;simp [cmp_less l k]
  ·by_cases h2:x<y
   ·simp [h,h2]
   ·have:y<x:=by omega
    simp [h,h2,this]
theorem Compare_eq {n a b} (hl:a.length<1000000) (hn:1000000≤n):slices_Compare_Lint_int n a b=some (cmpP a b):=by
 have:=loopF_g (body:=slices_Compare_Lint_int.l1 n a b) (len:=a.length) (st:=λi=>(i:Int)) (g:=λi=>some (cmpP (a.drop i) (b.drop i))) (λrec i hi hr=>?_) (λrec=>?_) n 0 (yC _) (by omega)
 ·simpa [slices_Compare_Lint_int] using this
 ·simp only [slices_Compare_Lint_int.l1,lt_len hi,if_true,idx_nat hi,yb,add64_1 (i:=i) (by omega),hr];rw [drop_cons hi];by_cases hb:i<b.length
  ·rw [if_neg (by simp;omega),idx_nat hb,drop_cons hb];simp only [yb,cmp_Compare_int,cmp_isNaN_int,uC,yk,if_false,cmpP,yd];by_cases h1:a[i]<b[i]
   ·simp [h1]
   ·by_cases h2:b[i]<a[i]
    ·simp [h1,h2]
    ·simp [h1,h2]
  ·rw [if_pos (by simp;omega),show b.drop i=[] from List.drop_eq_nil_of_le (by omega)];rfl
 ·simp only [slices_Compare_Lint_int.l1,ge_len,yk,if_false,List.drop_length];by_cases hb:a.length<b.length
  ·rw [if_pos (by simpa using hb),drop_cons hb];rfl
  ·rw [if_neg (by simpa using hb),List.drop_eq_nil_of_le (by omega)];rfl
theorem ref_less_eq {n a b} (hl:a.length<1000000) (hn:1000000≤n):ref13_less n a b=some (lessP a b):=by
 have:=loopF_g (body:=ref13_less.l1 n a b) (len:=min a.length b.length) (st:=λi=>(i:Int)) (g:=λi=>some (lessP (a.drop i) (b.drop i))) (λrec i hi hr=>?_) (λrec=>?_) n 0 (yC _) (by omega)
 ·simpa [ref13_less] using this
 ·have ha:i<a.length:=by omega
  have hb:i<b.length:=by omega
  simp only [ref13_less.l1,lt_len ha,lt_len hb,Bool.and_self,if_true,idx_nat ha,idx_nat hb,yb,add64_1 (i:=i) (by omega),hr];rw [drop_cons ha,drop_cons hb];by_cases h:a[i]=b[i]
  ·simp [h,lessP]
  ·simp [h,lessP]
 ·simp only [ref13_less.l1];rw [if_neg (by simp;omega)];by_cases ha:a.length≤b.length
  ·rw [Nat.min_eq_left ha,List.drop_length];by_cases hb:a.length<b.length
   ·rw [drop_cons hb];simp [lessP,hb]
   ·rw [List.drop_eq_nil_of_le (by omega)];simp [lessP];omega
  ·rw [Nat.min_eq_right (by omega),List.drop_length,drop_cons (by omega)];simp [lessP];omega
def argP (m:Model) (s x:Int):Bool:=(!decide (s<0)||aroundP x 9999)&&(!decide (0≤s)||(decide (0≤x)&&decide (x<(idx m.sorts s).getD default)))
def argsP (m:Model):List Int→List Int→Bool
 | s::l,x::k=>argP m s x&&argsP m l k
 | _,_=>true
def opAt (m:Model) (a:Action):Operation:=(idx m.operations a.operation).getD default
def ordP (b a:Action):Bool:=!decide (a.operation<b.operation)&&(!(b.operation==a.operation)||lessP b.arguments a.arguments)
def actP (m:Model) (K:Nat) (i:Nat) (a:Action):Bool:=
 (decide (0≤a.operation)&&decide (a.operation<(m.operations.length:Int)))&&(a.arguments.length==(opAt m a).sorts.length)&&argsP m (opAt m a).sorts a.arguments&&(decide (i=0)||ordP ((idx m.actions ((i - 1:Nat):Int)).getD default) a)&&effP m K a.effect
def actsP (m:Model) (K:Nat):Bool:=decide (m.actions.length≤256)&&allR (λi=>actP m K i ((idx m.actions (i:Int)).getD default)) 0 m.actions.length
theorem argsP_drop {m} {s x:List Int} {k:Nat} (h1:k<s.length) (h2:k<x.length):argsP m (s.drop k) (x.drop k)=(argP m s[k] x[k]&&argsP m (s.drop (k+1)) (x.drop (k+1))):=by
 rw [drop_cons h1,drop_cons h2];rfl
theorem opAt_idx {m a} (h:(decide (0≤a.operation)&&decide (a.operation<(m.operations.length:Int)))=true):idx m.operations a.operation=some (opAt m a)∧opAt m a∈m.operations:=by
 simp only [yc,yd] at h;obtain ⟨o,ho⟩:=idx_some h.1 h.2;refine ⟨by rw [ho,opAt,ho];rfl,?_⟩;rw [opAt,ho];exact idx_mem ho
theorem idx_sort {m:Model} {s:Int} (h0:0≤s) (h:s<(m.sorts.length:Int)):idx m.sorts s=some ((idx m.sorts s).getD default):=by
 obtain ⟨x,hx⟩:=idx_some h0 h;rw [hx];rfl
theorem opsP_sorts {m} (h:opsP m=true):∀ o∈m.operations,o.sorts.length≤3∧∀ s∈o.sorts,-1≤s∧s<(m.sorts.length:Int):=by
 simp only [opsP,yc,yr] at h;intro o ho;have:=h.1 o ho;simp only [opP,yc,yd,yr] at this;exact this
theorem ord_model {b a}:((decide (a.operation<b.operation))||((b.operation==a.operation)&&(decide (0≤cmpP b.arguments a.arguments)))) = !ordP b a:=by
 rw [cmp_less];unfold ordP;cases decide (a.operation<b.operation) <;> cases (b.operation==a.operation) <;> cases lessP b.arguments a.arguments <;> rfl
theorem ord_ref {b a}:((decide (a.operation<b.operation))||((b.operation==a.operation)&&(!lessP b.arguments a.arguments))) = !ordP b a:=by
 unfold ordP;cases decide (a.operation<b.operation) <;> cases (b.operation==a.operation) <;> cases lessP b.arguments a.arguments <;> rfl
theorem model_actions_eq {n:Nat} {m} {l:List Range} (hF:Fuel n) (hS:SmallM m) (hO:opsP m=true):model_judge_actions n ⟨m,l⟩=some (actsP m l.length):=by
 have hn:=hF.big;have hal:=hS.actions;unfold model_judge_actions actsP;by_cases h0:m.actions.length≤256
 ·rw [if_neg (by simp;omega),decide_eq_true h0,yA];have:=loopF_all (body:=model_judge_actions.l1 n ⟨m,l⟩) (len:=m.actions.length) (n:=n) (st:=λi=>(i:Int)) (λi=>actP m l.length i ((idx m.actions (i:Int)).getD default)) (some false) (some true) (λrec i hi=>?_) (λrec=>?_) (by omega)
  ·simp only [Int.natCast_zero] at this;rw [this];cases allR (λi=>actP m l.length i ((idx m.actions (i:Int)).getD default)) 0 m.actions.length <;> rfl
  ·have hmem:=yt hi;obtain ⟨a1,a2,a3,a4,a5⟩:=hS.act _ hmem;simp only [model_judge_actions.l1,lt_len hi,if_true,idx_nat hi,yb,model_index,yh];unfold actP;cases hop:(decide (0≤m.actions[i].operation)&&decide (m.actions[i].operation<(m.operations.length:Int))) with
   | false=>simp [grd]
   | true=>
    obtain ⟨ho,hom⟩:=opAt_idx hop;obtain ⟨o1,o2⟩:=opsP_sorts hO _ hom;simp only [ho,yj,yx,grd,if_true,yh,ub,uj,yA,yb];by_cases hlen:m.actions[i].arguments.length=(opAt m m.actions[i]).sorts.length
    ·rw [if_neg (by simp [hlen])];have hle:(m.actions[i].arguments.length==(opAt m m.actions[i]).sorts.length)=true:=by simp [hlen]
     rw [hle,yA];have inner:=loopF_g (body:=model_judge_actions.l2 n ⟨m,l⟩ i rec m.actions[i] (opAt m m.actions[i])) (len:=(opAt m m.actions[i]).sorts.length) (st:=λk=>(k:Int)) (g:=λk=>if argsP m ((opAt m m.actions[i]).sorts.drop k) (m.actions[i].arguments.drop k)=true then (if ((decide (i=0)||ordP ((idx m.actions ((i - 1:Nat):Int)).getD default) m.actions[i])&&effP m l.length m.actions[i].effect)=true then rec ((i+1:Nat):Int) else some false) else some false) (λrec' k hk hr'=>?_) (λrec'=>?_) n 0 (yC _) (by omega)
     ·simp only [Int.natCast_zero,List.drop_zero] at inner;rw [inner];cases argsP m (opAt m m.actions[i]).sorts m.actions[i].arguments <;> simp
     ·have hk2:k<m.actions[i].arguments.length:=by omega
      have hs2:=o2 _ (yt hk);simp only [model_judge_actions.l2,lt_len hk,if_true,idx_nat hk,idx_nat hk2,yb,around4,yj,yx,grd,yh,add64_1 (i:=k) (by omega),hr',model_index];rw [argsP_drop hk hk2];unfold argP;by_cases hneg:(opAt m m.actions[i]).sorts[k]<0
      ·have hd1:decide ((opAt m m.actions[i]).sorts[k]<0)=true:=by simp [hneg]
       have hd2:decide (0≤(opAt m m.actions[i]).sorts[k])=false:=by simp;omega
       rw [hd1,hd2];cases aroundP m.actions[i].arguments[k] 9999 <;> simp
      ·have hd1:decide ((opAt m m.actions[i]).sorts[k]<0)=false:=by simp;omega
       have hd2:decide (0≤(opAt m m.actions[i]).sorts[k])=true:=by simp;omega
       obtain ⟨z,hz⟩:=idx_some (l:=m.sorts) (i:=(opAt m m.actions[i]).sorts[k]) (by omega) hs2.2;rw [hz,hd1,hd2];by_cases h1:0≤m.actions[i].arguments[k]
       ·by_cases h2:m.actions[i].arguments[k]<z
        ·have h2':¬ z≤m.actions[i].arguments[k]:=by omega
         simp [h1,h2,h2']
        ·have h2':z≤m.actions[i].arguments[k]:=by omega
         simp [h1,h2,h2']
       ·simp [h1]
     ·simp only [model_judge_actions.l2,ge_len,yk,if_false,jn,List.drop_length];rw [model_effect_eq hF hS (by omega) (by omega) (by omega) (λr hr=>by have:=a5 r hr;omega)];simp only [yb,add64_1 (i:=i) (by omega)];have hargs:argsP m [] (m.actions[i].arguments.drop (opAt m m.actions[i]).sorts.length)=true:=rfl;rw [hargs,if_pos rfl];by_cases h0i:i=0
      ·subst h0i;rw [if_neg (by simp)];cases effP m l.length m.actions[0].effect <;> simp
      ·rw [if_pos (by simp;omega),sub64_1 (by omega) (by omega)];have hi1:i - 1<m.actions.length:=by omega
       have b1:=(hS.act _ (yt hi1)).1;simp only [idx_nat hi1,yb,ord_model,yh,Compare_eq (a:=m.actions[i - 1].arguments) (b:=m.actions[i].arguments) (show m.actions[i - 1].arguments.length<1000000 by omega) (show 1000000≤n by omega),yj,yx,if_true,h0i,decide_false,uj];cases ordP m.actions[i - 1] m.actions[i] <;> cases effP m l.length m.actions[i].effect <;> simp [grd]
    ·rw [if_pos (by simp;omega)];have hle:(m.actions[i].arguments.length==(opAt m m.actions[i]).sorts.length)=false:=by simp [hlen]
     rw [hle];simp
  ·simp [model_judge_actions.l1]
 ·rw [if_pos (by simp;omega),decide_eq_false h0,yZ]
theorem ref13_actions_eq {n:Nat} {m:Model} (hn:1000000≤n) (hS:SmallM m) (hL:layoutP m.sorts m.tables=true):ref13_actions n m=some (opsP m&&actsP m (rangesP m.sorts true m.tables).length):=by
 have hal:=hS.actions;have hol:=hS.operations;have hef:∀ a∈m.actions,ref13_effect n m a.effect=some (effP m (rangesP m.sorts true m.tables).length a.effect):=λa ha=>by
  obtain ⟨a1,a2,a3,a4,a5⟩:=hS.act _ ha;exact ref_effect_eq hn hS hL (by omega) (by omega) (by omega) (λr hr=>by have:=a5 r hr;omega)
 generalize (rangesP m.sorts true m.tables).length=K at hef;have T:opsP m=true→loopF (ref13_actions.l3 n m) n 0=some (allR (λi=>actP m K i ((idx m.actions (i:Int)).getD default)) 0 m.actions.length):=λhO=>by
  have:=loopF_all (body:=ref13_actions.l3 n m) (len:=m.actions.length) (n:=n) (st:=λi=>(i:Int)) (λi=>actP m K i ((idx m.actions (i:Int)).getD default)) (some false) (some true) (λrec i hi=>?_) (λrec=>?_) (by omega)
  ·simp only [Int.natCast_zero] at this;rw [this];cases allR (λi=>actP m K i ((idx m.actions (i:Int)).getD default)) 0 m.actions.length <;> rfl
  ·have hmem:=yt hi;obtain ⟨a1,a2,a3,a4,a5⟩:=hS.act _ hmem;simp only [ref13_actions.l3,lt_len hi,if_true,idx_nat hi,yb,yh];have hneg:(decide (m.actions[i].operation<0)||decide ((m.operations.length:Int)≤m.actions[i].operation)) = !(decide (0≤m.actions[i].operation)&&decide (m.actions[i].operation<(m.operations.length:Int))):=by
    rw [Bool.not_and,← decide_not,← decide_not];congr 1
    ·exact decide_eq_decide.2 (by omega)
    ·exact decide_eq_decide.2 (by omega)
   rw [hneg];unfold actP;cases hop:(decide (0≤m.actions[i].operation)&&decide (m.actions[i].operation<(m.operations.length:Int))) with
   | false=>simp [grd]
   | true=>
    obtain ⟨ho,hom⟩:=opAt_idx hop;obtain ⟨o1,o2⟩:=opsP_sorts hO _ hom;simp only [ho,yj,yx,grd,if_true,yh,ub,uj,yA];by_cases hlen:m.actions[i].arguments.length=(opAt m m.actions[i]).sorts.length
    ·rw [if_neg (by simp [hlen])];have hle:(m.actions[i].arguments.length==(opAt m m.actions[i]).sorts.length)=true:=by simp [hlen]
     rw [hle,yA];have inner:=loopF_g (body:=ref13_actions.l4 n m i rec m.actions[i]) (len:=m.actions[i].arguments.length) (st:=λk=>(k:Int)) (g:=λk=>if argsP m ((opAt m m.actions[i]).sorts.drop k) (m.actions[i].arguments.drop k)=true then (if ((decide (i=0)||ordP ((idx m.actions ((i - 1:Nat):Int)).getD default) m.actions[i])&&effP m K m.actions[i].effect)=true then rec ((i+1:Nat):Int) else some false) else some false) (λrec' k hk2 hr'=>?_) (λrec'=>?_) n 0 (yC _) (by omega)
     ·simp only [Int.natCast_zero,List.drop_zero] at inner;rw [inner];cases argsP m (opAt m m.actions[i]).sorts m.actions[i].arguments <;> simp
     ·have hk:k<(opAt m m.actions[i]).sorts.length:=by omega
      have hs2:=o2 _ (yt hk);simp only [ref13_actions.l4,lt_len hk2,if_true,ho,idx_nat hk,idx_nat hk2,yb,between4,yj,yx,grd,yh,add64_1 (i:=k) (by omega),hr'];rw [argsP_drop hk hk2];unfold argP;by_cases hneg:(opAt m m.actions[i]).sorts[k]<0
      ·have hd1:decide ((opAt m m.actions[i]).sorts[k]<0)=true:=by simp [hneg]
       have hd2:decide (0≤(opAt m m.actions[i]).sorts[k])=false:=by simp;omega
       rw [hd1,hd2];cases aroundP m.actions[i].arguments[k] 9999 <;> simp
      ·have hd1:decide ((opAt m m.actions[i]).sorts[k]<0)=false:=by simp;omega
       have hd2:decide (0≤(opAt m m.actions[i]).sorts[k])=true:=by simp;omega
       rw [idx_sort (m:=m) (s:=(opAt m m.actions[i]).sorts[k]) (by omega) hs2.2,hd1,hd2];simp only [yh];generalize (idx m.sorts (opAt m m.actions[i]).sorts[k]).getD default=z;by_cases h1:m.actions[i].arguments[k]<0
       ·have h1':¬ 0≤m.actions[i].arguments[k]:=by omega
        simp [h1,h1']
       ·have h1':0≤m.actions[i].arguments[k]:=by omega
        by_cases h2:z≤m.actions[i].arguments[k]
        ·have h2':¬ m.actions[i].arguments[k]<z:=by omega
         simp [h1,h1',h2,h2']
        ·have h2':m.actions[i].arguments[k]<z:=by omega
         simp [h1,h1',h2,h2']
     ·simp only [ref13_actions.l4,ge_len,yk,if_false,jn,List.drop_length,hef _ hmem];simp only [yb,add64_1 (i:=i) (by omega)];have hargs:argsP m ((opAt m m.actions[i]).sorts.drop m.actions[i].arguments.length) []=true:=by cases (opAt m m.actions[i]).sorts.drop m.actions[i].arguments.length <;> rfl
      rw [hargs,if_pos rfl];by_cases h0i:i=0
      ·subst h0i;rw [if_neg (by simp)];cases effP m K m.actions[0].effect <;> simp
      ·rw [if_pos (by simp;omega),sub64_1 (by omega) (by omega)];have hi1:i - 1<m.actions.length:=by omega
       have b1:=(hS.act _ (yt hi1)).1;simp only [idx_nat hi1,yb,ord_ref,yh,ref_less_eq (a:=m.actions[i - 1].arguments) (b:=m.actions[i].arguments) (show m.actions[i - 1].arguments.length<1000000 by omega) (show 1000000≤n by omega),yj,yx,if_true,h0i,decide_false,uj];cases ordP m.actions[i - 1] m.actions[i] <;> cases effP m K m.actions[i].effect <;> simp [grd]
    ·rw [if_pos (by simp;omega)];have hle:(m.actions[i].arguments.length==(opAt m m.actions[i]).sorts.length)=false:=by simp [hlen]
     rw [hle];simp
  ·simp [ref13_actions.l3]
 unfold ref13_actions;have:=loopF_lall (body:=ref13_actions.l1 n m) (l:=m.operations) (n:=n) (st:=λi=>((m.operations.take i).map (·.name),(i:Int))) (opP m) (some false) (if (decide (m.operations.length≤8)&&distP [] (m.operations.map (·.name))&&decide (m.actions.length≤256))=true then loopF (ref13_actions.l3 n m) n 0 else some false) (λrec i hi=>?_) (λrec=>?_) (by omega)
 ·simp only [List.take_zero,List.map_nil,Int.natCast_zero] at this;rw [this];unfold actsP;cases hO:opsP m with
  | true=>
   have hO':=hO;simp only [opsP,yc] at hO';rw [hO'.1,hO'.2.1,hO'.2.2,T hO];cases decide (m.actions.length≤256) <;> rfl
  | false=>
   unfold opsP at hO;cases h1:m.operations.all (opP m) with
   | false=>simp
   | true=>
    rw [h1,yA] at hO;rw [hO];simp
 ·have hop:=hS.op _ (yt hi);simp only [ref13_actions.l1,lt_len hi,if_true,idx_nat hi,yb];rw [app_some (by simp;omega),yb,map_take_snoc hi];generalize hX:(m.operations.take (i+1)).map (·.name)=X;have inner:=loopF_lall (body:=ref13_actions.l2 n m i rec m.operations[i] X) (l:=m.operations[i].sorts) (n:=n) (st:=λk=>(k:Int)) (λs=>decide (-1≤s)&&decide (s<(m.sorts.length:Int))) (some false) (if decide (m.operations[i].sorts.length≤3)=true then rec (X,((i+1:Nat):Int)) else some false) (λrec' k hk=>?_) (λrec'=>?_) (by omega)
  ·simp only [Int.natCast_zero] at inner;rw [inner];unfold opP;cases decide (m.operations[i].sorts.length≤3) <;> cases (m.operations[i].sorts.all λs=>decide (-1≤s)&&decide (s<(m.sorts.length:Int))) <;> simp
  ·simp only [ref13_actions.l2,lt_len hk,if_true,idx_nat hk,yb,yj,yx,grd,yh,add64_1 (i:=k) (by omega)];have e1:decide (m.operations[i].sorts[k] < -1) = !decide (-1≤m.operations[i].sorts[k]):=by rw [← decide_not];exact decide_eq_decide.2 (by omega)
   have e2:decide ((m.sorts.length:Int)≤m.operations[i].sorts[k]) = !decide (m.operations[i].sorts[k]<(m.sorts.length:Int)):=by rw [← decide_not];exact decide_eq_decide.2 (by omega)
   rw [e1,e2];cases decide (-1≤m.operations[i].sorts[k]) <;> cases decide (m.operations[i].sorts[k]<(m.sorts.length:Int)) <;> simp
  ·simp only [ref13_actions.l2,ge_len,yk,if_false,add64_1 (i:=i) (by omega)];by_cases h3:m.operations[i].sorts.length≤3
   ·rw [if_neg (by simp;omega),if_pos (by simp [h3])]
   ·rw [if_pos (by simp;omega),if_neg (by simp [h3])]
 ·simp only [ref13_actions.l1,ge_len,yk,if_false,List.take_length];rw [ref13_distinct_eq hn (by simp;omega) (λw hw=>by
   simp only [y0] at hw;obtain ⟨o,ho,rfl⟩:=hw;have:=(hS.op o ho).1;omega)]
  simp only [yj,yx,grd,if_true,yh];have e1:decide (8<(m.operations.length:Int)) = !decide (m.operations.length≤8):=by rw [← decide_not];exact decide_eq_decide.2 (by omega)
  have e2:decide (256<(m.actions.length:Int)) = !decide (m.actions.length≤256):=by rw [← decide_not];exact decide_eq_decide.2 (by omega)
  rw [e1,e2];cases decide (m.operations.length≤8) <;> cases distP [] (m.operations.map (·.name)) <;> cases decide (m.actions.length≤256) <;> simp
def leadsP (hs:List Hide):Nat→Int→Int→Bool
 | 0,a,b=>a==b
 | k+1,a,b=>a==b||hs.any λh=>h.table==a&&leadsP hs k h.to b
def hideP (m:Model) (h:Hide):Bool:=
 (((decide (0≤h.table)&&decide (h.table<(m.tables.length:Int)))&&(decide (0≤h.to)&&decide (h.to<(m.tables.length:Int))))&&(h.table != h.to)) &&
 (((((idx m.tables h.table).getD default).kind==0)&&(((idx m.tables h.to).getD default).kind==0))&&((decide (0≤h.column)&&decide (h.column<(((idx m.tables h.table).getD default).columns.length:Int)))&&(((((idx m.tables h.to).getD default).columns.length:Int)==1)&&((idx ((idx m.tables h.to).getD default).columns 0).getD default==(idx ((idx m.tables h.table).getD default).columns h.column).getD default))))
def hidesP (m:Model):Bool:=decide (m.hides.length≤12)&&(m.hides.all (hideP m)&&m.hides.all λh=>!leadsP m.hides m.tables.length h.to h.table)
theorem leads_loop {m n self a b k} (hl:m.hides.length<n) (hl2:m.hides.length<1000000) (hk:k+1<1000000) (hself:∀ x,self m x b (k:Int)=some (leadsP m.hides k x b)) :
  loopF (ref13_leads.l1 n self m a b ((k+1:Nat):Int)) n 0=some (m.hides.any λh=>h.table==a&&leadsP m.hides k h.to b):=by
 have:=loopF_g (body:=ref13_leads.l1 n self m a b ((k+1:Nat):Int)) (len:=m.hides.length) (st:=λi=>(i:Int)) (g:=λi=>some ((m.hides.drop i).any λh=>h.table==a&&leadsP m.hides k h.to b)) (λrec i hi hr=>?_) (λrec=>?_) n 0 (yC _) (by omega)
 ·simpa using this
 ·have h0:decide (0<((k+1:Nat):Int))=true:=by simp
  have hsub:sub64 ((k+1:Nat):Int) 1=(k:Int):=by rw [sub64_1 (by omega) (by omega)];simp
  simp only [ref13_leads.l1,lt_len hi,h0,Bool.and_self,if_true,idx_nat hi,yb,yj,yx,grd,yh,hsub,hself,add64_1 (i:=i) (by omega),hr];rw [drop_cons hi,List.any_cons];cases (m.hides[i].table==a&&leadsP m.hides k m.hides[i].to b) <;> simp
 ·simp [ref13_leads.l1]
theorem ref_leads {m} (hl:m.hides.length<1000000):∀ (k n:Nat) (a b:Int),k<1000000→1000000+k<n→ref13_leads n m a b (k:Int)=some (leadsP m.hides k a b)
 | 0,0,_,_,_,h=>by omega
 | 0,n+1,a,b,_,h=>by
  simp only [ref13_leads,ref13_leads.body,leadsP];by_cases e:a=b
  ·simp [e]
  ·rw [if_neg (by simpa using e)];have hh:(a==b)=false:=by simpa using e
   rw [loopF_1 (by omega),hh];simp [ref13_leads.l1]
 | k+1,0,_,_,_,h=>by omega
 | k+1,n+1,a,b,hk,h=>by
  simp only [ref13_leads,ref13_leads.body,leadsP];by_cases e:a=b
  ·simp [e]
  ·rw [if_neg (by simpa using e),leads_loop (by omega) hl hk λx=>ref_leads hl k n x b (by omega) (by omega)];have hh:(a==b)=false:=by simpa using e
   rw [hh,uj]
theorem hide_idx {m:Model} {h:Hide} (h0:0≤h.table∧h.table<(m.tables.length:Int)) (h1:0≤h.to∧h.to<(m.tables.length:Int)):∃ t u,idx m.tables h.table=some t∧idx m.tables h.to=some u:=by
 obtain ⟨t,ht⟩:=idx_some h0.1 h0.2;obtain ⟨u,hu⟩:=idx_some h1.1 h1.2;exact ⟨t,u,ht,hu⟩
theorem ref13_hidden_eq {n:Nat} {m:Model} (hn:4294967296≤n) (hS:SmallM m):ref13_hidden n m=some (hidesP m):=by
 have hhl:=hS.hides;have htl:=hS.tables;unfold ref13_hidden hidesP;rw [if_neg (by simp;omega),decide_eq_true hhl,yA];have T:loopF (ref13_hidden.l2 n m) n 0=some (m.hides.all λh=>!leadsP m.hides m.tables.length h.to h.table):=by
  have:=loopF_lall (body:=ref13_hidden.l2 n m) (l:=m.hides) (n:=n) (st:=λi=>(i:Int)) (λh=>!leadsP m.hides m.tables.length h.to h.table) (some false) (some true) (λrec i hi=>?_) (λrec=>?_) (by omega)
  ·simp only [Int.natCast_zero] at this;rw [this];cases (m.hides.all λh=>!leadsP m.hides m.tables.length h.to h.table) <;> rfl
  ·simp only [ref13_hidden.l2,lt_len hi,if_true,idx_nat hi,yb,ref_leads (m:=m) (by omega) m.tables.length n m.hides[i].to m.hides[i].table (by omega) (by omega),add64_1 (i:=i) (by omega)];cases leadsP m.hides m.tables.length m.hides[i].to m.hides[i].table <;> simp
  ·simp [ref13_hidden.l2]
 have:=loopF_lall (body:=ref13_hidden.l1 n m) (l:=m.hides) (n:=n) (st:=λi=>(i:Int)) (hideP m) (some false) (some (m.hides.all λh=>!leadsP m.hides m.tables.length h.to h.table)) (λrec i hi=>?_) (λrec=>?_) (by omega)
 ·simp only [Int.natCast_zero] at this;rw [this];cases m.hides.all (hideP m) <;> simp
 ·simp only [ref13_hidden.l1,lt_len hi,if_true,idx_nat hi,yb,add64_1 (i:=i) (by omega)];generalize m.hides[i]=h;by_cases hb:(((0≤h.table∧h.table<(m.tables.length:Int))∧(0≤h.to∧h.to<(m.tables.length:Int)))∧h.table≠h.to)
  ·rw [if_neg (by simp;omega)];obtain ⟨t,u,ht,hu⟩:=hide_idx hb.1.1 hb.1.2;have hhp:hideP m h=(((t.kind==0)&&(u.kind==0))&&((decide (0≤h.column)&&decide (h.column<(t.columns.length:Int)))&&(((u.columns.length:Int)==1)&&((idx u.columns 0).getD default==(idx t.columns h.column).getD default)))):=by
    unfold hideP;rw [ht,hu];simp [hb]
   simp only [ht,hu,yb];rw [hhp];by_cases hk:(((t.kind==0)&&(u.kind==0))&&((decide (0≤h.column)&&decide (h.column<(t.columns.length:Int)))&&((u.columns.length:Int)==1)))=true
   ·have hk':=hk;simp only [yc,yd,beq_iff_eq] at hk';obtain ⟨⟨k1,k2⟩,⟨k3,k4⟩,k5⟩:=hk';obtain ⟨x,hx⟩:=idx_some (l:=u.columns) (i:=0) (by omega) (by omega);obtain ⟨y,hy⟩:=idx_some k3 k4;have n1:¬ h.column<0:=by omega
    have n2:¬ (t.columns.length:Int)≤h.column:=by omega
    simp only [k1,k2,k3,k4,k5,n1,n2,hx,hy,yh,decide_true,decide_false,beq_self_eq_true,uC,yj,yx,Bool.or_false,yA,grd,if_true];by_cases hxy:x=y
    ·simp [hxy]
    ·simp [hxy]
   ·have hf:(((((t.kind != 0)||(u.kind != 0))||(decide (h.column<0)))||(decide ((t.columns.length:Int)≤h.column)))||((u.columns.length:Int) != 1))=true:=by
     simp only [yc,yd,beq_iff_eq] at hk;simp only [yw,bne_iff_ne,yd];omega
    simp only [hf,uz,grd,if_true];rw [← Bool.and_assoc (decide (0≤h.column)&&decide (h.column<(t.columns.length:Int))),← Bool.and_assoc];simp only [yF] at hk;rw [hk];rfl
  ·rw [if_pos (by simp;omega)];have hhp:hideP m h=false:=by
    unfold hideP;cases hx:(((decide (0≤h.table)&&decide (h.table<(m.tables.length:Int)))&&(decide (0≤h.to)&&decide (h.to<(m.tables.length:Int))))&&(h.table != h.to)) with
    | false=>rfl
    | true=>
     simp only [yc,yd,bne_iff_ne] at hx;exact absurd hx hb
   rw [hhp];rfl
 ·simp only [ref13_hidden.l1,ge_len,yk,if_false,T]
theorem nodup_len:∀ (T:Nat) (l:List Int),l.Nodup→(∀ x∈l,0≤x∧x<(T:Int))→l.length≤T
 | 0,l,_,h=>by
  cases l with
  | nil=>simp
  | cons x l=>have:=h x (by simp);omega
 | T+1,l,hn,h=>by
  by_cases hm:(T:Int)∈l
  ·have h1:=nodup_len T (l.erase (T:Int)) (hn.erase _) (λx hx=>by
    have:=(hn.mem_erase_iff).1 hx;have:=h x this.2;omega)
   rw [List.length_erase_of_mem hm] at h1;omega
  ·have:=nodup_len T l hn (λx hx=>by
    have:=h x hx;have:x≠(T:Int):=λe=>hm (e▸hx)
    omega)
   omega
theorem leadsP_mono {hs}:∀ {k:Nat} {a b:Int},leadsP hs k a b=true→leadsP hs (k+1) a b=true
 | 0,a,b,h=>by
  simp only [leadsP] at h;simp only [leadsP,h,uz]
 | k+1,a,b,h=>by
  rw [leadsP] at h ⊢;simp only [yw,ut,yc] at h ⊢;rcases h with h | ⟨x,hx,h1,h2⟩
  ·exact .inl h
  ·exact .inr ⟨x,hx,h1,leadsP_mono h2⟩
theorem leadsP_le {hs k j a b} (h:leadsP hs k a b=true) (hkj:k≤j):leadsP hs j a b=true:=by
 obtain ⟨d,rfl⟩:=Nat.exists_eq_add_of_le hkj;clear hkj
 induction d with
 | zero=>exact h
 | succ d ih=>exact leadsP_mono ih
theorem leadsP_refl {hs k a}:leadsP hs k a a=true:=by cases k <;> simp [leadsP]
theorem leadsP_snoc {hs h} (hh:h∈hs):∀ {k:Nat} {a:Int},leadsP hs k a h.table=true→leadsP hs (k+1) a h.to=true
 | 0,a,e=>by
  simp only [leadsP,beq_iff_eq] at e;simp only [leadsP,yw,ut,yc,beq_iff_eq];exact .inr ⟨h,hh,e.symm,rfl⟩
 | k+1,a,e=>by
  rw [leadsP] at e ⊢;simp only [yw,ut,yc,beq_iff_eq] at e ⊢;rcases e with e | ⟨x,hx,h1,h2⟩
  ·exact .inr ⟨h,hh,e.symm,leadsP_refl⟩
  ·exact .inr ⟨x,hx,h1,leadsP_snoc hh h2⟩
def walkP (f:Int→Hide) (s:Int):Nat→Int
 | 0=>s
 | k+1=>(f (walkP f s k)).to
theorem sink_ex {hs:List Hide} {T:Nat} {S:List Int} (hS:S≠[]) (hb:∀ t∈S,0≤t∧t<(T:Int)) (hac:∀ h∈hs,leadsP hs T h.to h.table=false):∃ t∈S,∀ h∈hs,¬ (h.table=t∧h.to∈S):=by
 apply Classical.byContradiction;intro hno;have hedge:∀ t,t∈S→∃ h,h∈hs∧h.table=t∧h.to∈S:=λt ht=>by
  apply Classical.byContradiction;intro hn;exact hno ⟨t,ht,λh hh he=>hn ⟨h,hh,he.1,he.2⟩⟩
 obtain ⟨s,hs0⟩:∃ s,s∈S:=by
  cases S with
  | nil=>exact absurd rfl hS
  | cons x l=>exact ⟨x,by simp⟩
 obtain ⟨f,hf⟩:∃ f:Int→Hide,∀ t,t∈S→f t∈hs∧(f t).table=t∧(f t).to∈S:=by
  refine ⟨λt=>if ht:t∈S then Classical.choose (hedge t ht) else default,λt ht=>?_⟩;simp only [ht,dite_true];exact Classical.choose_spec (hedge t ht)
 have hw:∀ k,walkP f s k∈S:=λk=>by
  induction k with
  | zero=>exact hs0
  | succ k ih=>exact (hf _ ih).2.2
 have hlead:∀ d i,leadsP hs d (walkP f s i) (walkP f s (i+d))=true:=λd=>by
  induction d with
  | zero=>intro i;exact leadsP_refl
  | succ d ih=>
   intro i;simp only [leadsP,yw,ut,yc,beq_iff_eq];refine .inr ⟨f (walkP f s i),(hf _ (hw i)).1,(hf _ (hw i)).2.1,?_⟩;have:=ih (i+1);rw [show i+1+d=i+(d+1) by omega] at this;exact this
 have hne:∀ i j,i<j→j≤T→walkP f s i≠walkP f s j:=λi j hij hj e=>by
  have h1:=hlead (j - i - 1) (i+1);rw [show i+1+(j - i - 1)=j by omega,← e] at h1;have h2:=hac _ (hf _ (hw i)).1;rw [(hf _ (hw i)).2.1] at h2;have h3:leadsP hs T (f (walkP f s i)).to (walkP f s i)=true:=leadsP_le h1 (by omega);rw [h3] at h2;cases h2
 have hlen:=nodup_len T ((List.range (T+1)).map (walkP f s)) (by
  rw [List.Nodup,List.pairwise_map];exact List.Pairwise.imp_of_mem (λ{a b} _ hb hab=>hne a b hab (by have:=y7.1 hb;omega)) List.pairwise_lt_range) (λx hx=>by
  simp only [y0] at hx;obtain ⟨k,-,rfl⟩:=hx;exact hb _ (hw k))
 simp at hlen;omega
def keysOf (m:GMap Int Bool):List Int:=m.es.map λe=>e.2.1
structure WfM (m:GMap Int Bool):Prop where
 tru:∀ e∈m.es,e.2.2=true
 nd:(m.es.map (·.1)).Nodup
 lt:∀ e∈m.es,e.1<m.clock
theorem WfM.get {m} (h:WfM m) (k):(m.get? k).getD false=decide (k∈keysOf m):=by
 unfold GMap.get?;rw [findK_get k m.es h.tru];rfl
theorem WfM.empty:WfM (GMap.empty:GMap Int Bool):=⟨λe he=>(by simp [GMap.empty] at he),by simp [GMap.empty],λe he=>(by simp [GMap.empty] at he)⟩
theorem findK_at (k):∀ (es:List (Nat×Int×Bool)) (p:Nat×Bool),findK k es=some p→∃ h:p.1<es.length,es[p.1].2.1=k
 | [],_,h=>by simp [findK] at h
 | e::es,p,h=>by
  simp only [findK] at h;split at h
  ·rename_i hk;cases h;exact ⟨by simp,hk.symm⟩
  ·simp only [Option.map_eq_some_iff] at h;obtain ⟨q,h1,rfl⟩:=h;obtain ⟨h2,h3⟩:=findK_at k es q h1;exact ⟨by simp only [yR];omega,by simpa using h3⟩
theorem modify_births (f) (hf:∀ e,(f e).1=e.1):∀ (es:List (Nat×Int×Bool)) (i:Nat),(es.modify i f).map (·.1)=es.map (·.1)
 | [],_=>by simp
 | e::es,0=>by simp [hf]
 | e::es,i+1=>by simp [modify_births f hf es i]
theorem WfM.put {m} (h:WfM m) (k):WfM (m.put k true)∧(m.put k true).es.length≤m.es.length+1∧∀ t,t∈keysOf (m.put k true)↔t∈keysOf m∨t=k:=by
 unfold GMap.put keysOf;cases hk:findK k m.es with
 | none=>
  simp only [];refine ⟨⟨λe he=>?_,?_,λe he=>?_⟩,by simp,λt=>by simp⟩
  ·simp only [yH,yJ] at he;rcases he with he | rfl
   ·exact h.tru e he
   ·rfl
  ·simp only [ui,yL,List.map_nil];rw [List.nodup_append];refine ⟨h.nd,by simp,λa ha b hb=>?_⟩;simp only [yJ] at hb;subst hb;simp only [y0] at ha;obtain ⟨e,he,rfl⟩:=ha;have:=h.lt e he;omega
  ·simp only [yH,yJ] at he;rcases he with he | rfl
   ·have:=h.lt e he;simp only [];omega
   ·simp
 | some p=>
  obtain ⟨i,b⟩:=p;simp only [];have hb:=modify_births (λe:Nat×Int×Bool=>(e.1,e.2.1,true)) (λe=>rfl) m.es i;refine ⟨⟨modify_all (p:=λe=>e.2.2=true) _ (λe=>rfl) m.es i h.tru,by rw [hb];exact h.nd,λe he=>?_⟩,by simp,λt=>?_⟩
  ·have:e.1∈m.es.map (·.1):=by rw [← hb];exact List.mem_map_of_mem he
   simp only [y0] at this;obtain ⟨x,hx,e1⟩:=this;have:=h.lt x hx;simp only [];omega
  ·rw [modify_keys (λe:Nat×Int×Bool=>(e.1,e.2.1,true)) (λe=>rfl) m.es i];constructor
   ·exact .inl
   ·rintro (h1 | rfl)
    ·exact h1
    ·exact findK_yes _ m.es _ hk
theorem WfM.del {m} (h:WfM m) {e} (he:e∈m.es):WfM (m.del e.2.1)∧(m.del e.2.1).clock=m.clock∧(m.del e.2.1).es.length+1=m.es.length∧(m.del e.2.1).es.Sublist m.es∧∀ t,t∈keysOf m→t≠e.2.1→t∈keysOf (m.del e.2.1):=by
 unfold GMap.del keysOf;cases hk:findK e.2.1 m.es with
 | none=>exact absurd (List.mem_map_of_mem (f:=λe:Nat×Int×Bool=>e.2.1) he) (findK_no _ m.es hk)
 | some p=>
  obtain ⟨i,b⟩:=p;obtain ⟨hi,hik⟩:=findK_at _ m.es _ hk;simp only [] at hi hik ⊢;have hsub:=List.eraseIdx_sublist m.es i;refine ⟨⟨λx hx=>h.tru x (hsub.subset hx),(hsub.map _).nodup h.nd,λx hx=>h.lt x (hsub.subset hx)⟩,trivial,?_,hsub,λt ht hne=>?_⟩
  ·rw [List.length_eraseIdx_of_lt hi];omega
  ·simp only [y0] at ht ⊢;obtain ⟨x,hx,rfl⟩:=ht;obtain ⟨j,hj,rfl⟩:=List.mem_iff_getElem.1 hx;refine ⟨_,?_,rfl⟩;rw [List.mem_eraseIdx_iff_getElem];refine ⟨j,hj,λe1=>hne ?_,rfl⟩;subst e1;exact hik
theorem left_less {m m':GMap Int Bool} {seen:List Nat} {e:Nat×Int×Bool} (he:e∈m.left seen) (hs:m'.es.Sublist m.es):(m'.left (seen++[e.1])).length<(m.left seen).length:=by
 unfold GMap.left at he ⊢;have h1:(m'.es.filter λx=>!(seen++[e.1]).contains x.1).length≤(m.es.filter λx=>!(seen++[e.1]).contains x.1).length:=(hs.filter _).length_le;have h2:(m.es.filter λx=>!(seen++[e.1]).contains x.1)=(m.es.filter λx=>!seen.contains x.1).filter λx=>!(x.1==e.1):=by
  rw [List.filter_filter];congr 1;funext x;rw [Bool.eq_iff_iff];simp;constructor
  ·rintro ⟨a,b⟩;exact ⟨b,a⟩
  ·rintro ⟨a,b⟩;exact ⟨b,a⟩
 have h3:((m.es.filter λx=>!seen.contains x.1).filter λx=>!(x.1==e.1)).length<(m.es.filter λx=>!seen.contains x.1).length:=
  List.length_filter_lt_length_iff_exists.2 ⟨e,he,by simp⟩
 rw [h2] at h1;omega
theorem hidden_round {n:Nat} {j:Judge} {m0:GMap Int Bool} {i:Int} {rec:(GMap Int Bool×Int)→Option Bool} {r:Bool} (hn:1000000≤n) (hh:j.model.hides.length<1000000) (J:GMap Int Bool→List Nat→Prop)
  (hwf:∀ m seen,J m seen→WfM m∧m.clock=m0.clock) (hover:∀ m seen,J m seen→m.left seen=[]→rec (m,add64 i 1)=some r)
  (hstep:∀ m seen e,J m seen→e∈m.left seen→J (if (j.model.hides.any λh=>h.table==e.2.1&&decide (h.to∈keysOf m))=true then m else m.del e.2.1) (seen++[e.1]))
  (h0:J m0 []) (hl:m0.es.length<1000000):loopF (model_judge_hidden.l4 n j m0 i rec) n (m0,[],m0.clock)=some r:=by
 refine loopF_M (body:=model_judge_hidden.l4 n j m0 i rec) (λs=>(s.1.left s.2.1).length) (λs=>J s.1 s.2.1∧s.2.2=m0.clock) (λ_ o=>o=some r) (λrec' s hI hr=>?_) n _ ⟨h0,rfl⟩ ?_
 ·obtain ⟨m,seen,last⟩:=s;obtain ⟨hJ,hlast⟩:=hI;simp only [] at hJ hlast hr;subst hlast;obtain ⟨hw,hc⟩:=hwf m seen hJ;simp only [model_judge_hidden.l4,stepM];have hold:m.old m0.clock m0.clock=true:=by
   simp only [GMap.old,yc,yr,yd];exact ⟨λe he=>by have:=hw.lt e he;omega,ym _⟩
  rw [hold];unfold grd;rw [if_pos rfl];cases hleft:m.left seen with
  | nil=>
   simp only [List.isEmpty_nil,if_true];exact hover m seen hJ hleft
  | cons x l=>
   rw [← hleft,if_neg (by rw [hleft];simp)]
   haveI:Globs:=⟨[]⟩
   refine chooseAll_all (by rw [hleft];simp) (λe he=>?_);have hem:e∈m.es:=(List.mem_filter.1 he).1;rw [if_pos (by simpa using hw.nd),ContainsFunc_LHide_api_Hide_eq (p:=λh=>h.table==e.2.1&&decide (h.to∈keysOf m)) (λh _=>by
    unfold model_judge_hidden_1;rw [hw.get]) hh hn,yb]
   have hst:=hstep m seen e hJ he;cases hb:(j.model.hides.any λh=>h.table==e.2.1&&decide (h.to∈keysOf m)) with
   | true=>
    rw [hb] at hst;rw [if_neg (by simp)];exact hr (m,seen++[e.1],m.clock) ⟨hst,hc⟩ (left_less he (List.Sublist.refl _))
   | false=>
    rw [hb] at hst;rw [if_pos (by simp)];exact hr (m.del e.2.1,seen++[e.1],m.clock) ⟨hst,hc⟩ (left_less he (hw.del hem).2.2.2.1)
 ·have:(m0.left []).length≤m0.es.length:=List.length_filter_le _ _;simp only [];omega
theorem nodup_map_inj {α β:Type} {f:α→β}:∀ {l:List α},(l.map f).Nodup→∀ x∈l,∀ y∈l,f x=f y→x=y
 | [],_,x,hx,_,_,_=>by simp at hx
 | a::l,h,x,hx,y,hy,e=>by
  simp only [yL,List.nodup_cons,y0,not_exists,not_and] at h;simp only [yD] at hx hy;rcases hx with rfl | hx <;> rcases hy with rfl | hy
  ·rfl
  ·exact absurd e.symm (h.1 y hy)
  ·exact absurd e (h.1 x hx)
  ·exact nodup_map_inj h.2 x hx y hy e
theorem hidden_rounds {n:Nat} {j:Judge} {m:GMap Int Bool} (hn:1000000≤n) (hh:j.model.hides.length≤1000) (hok:∀ h∈j.model.hides,(0≤h.table∧h.table<(j.model.tables.length:Int)))
  (hw:WfM m) (hlen:m.es.length≤j.model.hides.length) (hk:∀ t,t∈keysOf m↔∃ h∈j.model.hides,h.table=t) :
  loopF (model_judge_hidden.l3 n j) n (m,0)=some (j.model.hides.all λh=>!leadsP j.model.hides j.model.tables.length h.to h.table):=by
 cases hac:(j.model.hides.all λh=>!leadsP j.model.hides j.model.tables.length h.to h.table) with
 | true=>
  have hac':∀ h∈j.model.hides,leadsP j.model.hides j.model.tables.length h.to h.table=false:=λh hm=>by
   have:=yr.1 hac h hm;simpa using this
  have hrange:∀ m':GMap Int Bool,(∀ t∈keysOf m',∃ h∈j.model.hides,h.table=t)→m'.es≠[]→∃ e∈m'.es,∀ h∈j.model.hides,¬ (h.table=e.2.1∧h.to∈keysOf m'):=λm' hm' hne=>by
   obtain ⟨t,ht,hs⟩:=sink_ex (hs:=j.model.hides) (T:=j.model.tables.length) (S:=keysOf m') (by simpa [keysOf] using hne) (λt ht=>by
    obtain ⟨h,hh,rfl⟩:=hm' t ht;exact hok h hh) hac'
   simp only [keysOf,y0] at ht;obtain ⟨e,he,rfl⟩:=ht;exact ⟨e,he,hs⟩
  refine loopF_I (body:=model_judge_hidden.l3 n j) (len:=j.model.hides.length) (st:=λm i=>(m,(i:Int))) (g:=λ_ _=>some true) (λi m=>WfM m∧m.es.length+i≤j.model.hides.length∧∀ t∈keysOf m,∃ h∈j.model.hides,h.table=t) (λrec i m hi hI hr=>?_) (λrec m hI=>?_) n 0 m (yC _) (by omega) ⟨hw,by omega,λt ht=>(hk t).1 ht⟩
  ·obtain ⟨h1,h2,h3⟩:=hI;simp only [model_judge_hidden.l3,lt_len hi,if_true];refine hidden_round (r:=true) (by omega) (by omega) (λm' seen=>(WfM m'∧m'.clock=m.clock∧∀ t∈keysOf m',∃ h∈j.model.hides,h.table=t)∧(m'.es.length+i+1≤j.model.hides.length∨(m'.es.length+i≤j.model.hides.length∧∃ e∈m'.left seen,∀ h∈j.model.hides,¬ (h.table=e.2.1∧h.to∈keysOf m')))) (λm' seen hJ=>⟨hJ.1.1,hJ.1.2.1⟩) (λm' seen hJ hl=>?_) (λm' seen e hJ he=>?_) ⟨⟨h1,rfl,h3⟩,?_⟩ (by omega)
   ·rw [add64_1 (by omega)];refine hr m' ⟨hJ.1.1,?_,hJ.1.2.2⟩;rcases hJ.2 with h | ⟨-,e,he,-⟩
    ·omega
    ·rw [hl] at he;cases he
   ·obtain ⟨⟨w1,w2,w3⟩,hd⟩:=hJ;have hem:e∈m'.es:=(List.mem_filter.1 he).1;obtain ⟨d1,d2,d3,d4,-⟩:=w1.del hem;cases hb:(j.model.hides.any λh=>h.table==e.2.1&&decide (h.to∈keysOf m')) with
    | true=>
     rw [if_pos rfl];refine ⟨⟨w1,w2,w3⟩,?_⟩;rcases hd with hd | ⟨hd,x,hx,hs⟩
     ·exact .inl hd
     ·refine .inr ⟨hd,x,?_,hs⟩;simp only [GMap.left,List.mem_filter] at hx ⊢;refine ⟨hx.1,?_⟩;have hne:x.1≠e.1:=λe1=>by
       have:x=e:=nodup_map_inj w1.nd x hx.1 e hem e1;subst this;simp only [ut,yc,beq_iff_eq,yd] at hb;obtain ⟨h,hh,q⟩:=hb;exact hs h hh q
      simp only [yy,List.contains_eq_mem,yE,yH,yJ,not_or] at hx ⊢;exact ⟨hx.2,hne⟩
    | false=>
     rw [if_neg (by simp)];refine ⟨⟨d1,by omega,λt ht=>?_⟩,.inl ?_⟩
     ·refine w3 t ?_;simp only [keysOf,y0] at ht ⊢;obtain ⟨x,hx,rfl⟩:=ht;exact ⟨x,d4.subset hx,rfl⟩
     ·rcases hd with hd | ⟨hd,-⟩ <;> omega
   ·by_cases hne:m.es=[]
    ·left;rw [hne];simp;omega
    ·right;refine ⟨h2,?_⟩;obtain ⟨e,he,hs⟩:=hrange m h3 hne;exact ⟨e,by simp [GMap.left,he],hs⟩
  ·have:m.es.length=0:=by omega
   simp [model_judge_hidden.l3,this]
 | false=>
  obtain ⟨h0,hm0,hl0⟩:∃ h∈j.model.hides,leadsP j.model.hides j.model.tables.length h.to h.table=true:=by
   simp only [List.all_eq_false] at hac;obtain ⟨h,hm,hx⟩:=hac;exact ⟨h,hm,by simpa using hx⟩
  have hclosed:∀ t,((∃ k,leadsP j.model.hides k h0.to t=true)∧∃ k,leadsP j.model.hides k t h0.table=true)→∃ h∈j.model.hides,h.table=t∧((∃ k,leadsP j.model.hides k h0.to h.to=true)∧∃ k,leadsP j.model.hides k h.to h0.table=true):=by
   rintro t ⟨⟨a,ha⟩,b,hb⟩;have hcase:t=h0.table∨∃ h∈j.model.hides,h.table=t∧∃ k,leadsP j.model.hides k h.to h0.table=true:=by
    cases b with
    | zero=>left;simpa [leadsP] using hb
    | succ b=>
     simp only [leadsP,yw,beq_iff_eq,ut,yc] at hb;rcases hb with hb | ⟨h,hm,e,hx⟩
     ·exact .inl hb
     ·exact .inr ⟨h,hm,e,b,hx⟩
   rcases hcase with rfl | ⟨h,hm,rfl,k,hx⟩
   ·exact ⟨h0,hm0,rfl,⟨0,leadsP_refl⟩,_,hl0⟩
   ·exact ⟨h,hm,rfl,⟨_,leadsP_snoc hm ha⟩,k,hx⟩
  generalize hC:(λt=>(∃ k,leadsP j.model.hides k h0.to t=true)∧∃ k,leadsP j.model.hides k t h0.table=true)=C at *;have hC':∀ t,C t→∃ h∈j.model.hides,h.table=t∧C h.to:=by
   intro t ht;rw [← hC] at ht ⊢;exact hclosed t ht
  have hCs:C h0.to:=by rw [← hC];exact ⟨⟨0,leadsP_refl⟩,_,hl0⟩
  refine loopF_I (body:=model_judge_hidden.l3 n j) (len:=j.model.hides.length) (st:=λm i=>(m,(i:Int))) (g:=λ_ _=>some false) (λi m=>WfM m∧m.es.length≤1000∧∀ t,C t→t∈keysOf m) (λrec i m hi hI hr=>?_) (λrec m hI=>?_) n 0 m (yC _) (by omega) ⟨hw,by omega,λt ht=>(hk t).2 (by
   obtain ⟨h,hh,e,-⟩:=hC' t ht;exact ⟨h,hh,e⟩)⟩
  ·obtain ⟨h1,h2,h3⟩:=hI;simp only [model_judge_hidden.l3,lt_len hi,if_true];refine hidden_round (r:=false) (by omega) (by omega) (λm' seen=>WfM m'∧m'.clock=m.clock∧m'.es.length≤1000∧∀ t,C t→t∈keysOf m') (λm' seen hJ=>⟨hJ.1,hJ.2.1⟩) (λm' seen hJ hl=>?_) (λm' seen e hJ he=>?_) ⟨h1,rfl,h2,h3⟩ (by omega)
   ·rw [add64_1 (by omega)];exact hr m' ⟨hJ.1,hJ.2.2⟩
   ·obtain ⟨w1,w2,w3,w4⟩:=hJ;have hem:e∈m'.es:=(List.mem_filter.1 he).1;obtain ⟨d1,d2,d3,-,d5⟩:=w1.del hem;cases hb:(j.model.hides.any λh=>h.table==e.2.1&&decide (h.to∈keysOf m')) with
    | true=>
     rw [if_pos rfl];exact ⟨w1,w2,w3,w4⟩
    | false=>
     rw [if_neg (by simp)];refine ⟨d1,by omega,by omega,λt ht=>d5 t (w4 t ht) λe1=>?_⟩;obtain ⟨h,hh,hht,hto⟩:=hC' t ht;have:=List.any_eq_false.1 hb h hh;apply this;simp only [yc,beq_iff_eq,yd];exact ⟨by omega,w4 _ hto⟩
  ·obtain ⟨-,-,h3⟩:=hI;have:=h3 _ hCs;have hne:m.es.length≠0:=λe=>by
    simp only [keysOf,List.length_eq_zero_iff.1 e,List.map_nil,List.not_mem_nil] at this
   simp only [model_judge_hidden.l3,ge_len,yk,if_false,yf,y8];omega
theorem model_hidden_eq {n m l} (hn:1000000≤n) (hS:SmallM m):model_judge_hidden n ⟨m,l⟩=some (hidesP m):=by
 have hhl:=hS.hides;have htl:=hS.tables;unfold model_judge_hidden hidesP;rw [if_neg (by simp;omega),decide_eq_true hhl,yA];have:=loopF_lall (body:=model_judge_hidden.l1 n ⟨m,l⟩) (l:=m.hides) (n:=n) (st:=λi=>(i:Int)) (hideP m) (some false) (loopF (model_judge_hidden.l2 n ⟨m,l⟩) n (GMap.empty,0)) (λrec i hi=>?_) (λrec=>?_) (by omega)
 ·simp only [Int.natCast_zero] at this;rw [this];cases hall:m.hides.all (hideP m) with
  | false=>simp
  | true=>
   rw [if_pos rfl,yA];have hok:∀ h∈m.hides,(0≤h.table∧h.table<(m.tables.length:Int)):=λh hm=>by
    have:=yr.1 hall h hm;simp only [hideP,yc,yd] at this;exact this.1.1.1
   refine loopF_I (body:=model_judge_hidden.l2 n ⟨m,l⟩) (len:=m.hides.length) (st:=λg i=>(g,(i:Int))) (g:=λ_ _=>some (m.hides.all λh=>!leadsP m.hides m.tables.length h.to h.table)) (λi g=>WfM g∧g.es.length≤i∧∀ t,t∈keysOf g↔∃ h∈m.hides.take i,h.table=t) (λrec i g hi hI hr=>?_) (λrec g hI=>?_) n 0 GMap.empty (yC _) (by omega) ⟨WfM.empty,by simp [GMap.empty],λt=>by simp [keysOf,GMap.empty]⟩
   ·obtain ⟨h1,h2,h3⟩:=hI;obtain ⟨p1,p2,p3⟩:=h1.put m.hides[i].table;simp only [model_judge_hidden.l2,lt_len hi,if_true,idx_nat hi,yb,add64_1 (i:=i) (by omega)];refine hr _ ⟨p1,by omega,λt=>?_⟩;rw [p3,h3,yI hi];simp only [yH,yJ];constructor
    ·rintro (⟨h,hm,e⟩ | e)
     ·exact ⟨h,.inl hm,e⟩
     ·exact ⟨_,.inr rfl,e.symm⟩
    ·rintro ⟨h,hm | rfl,e⟩
     ·exact .inl ⟨h,hm,e⟩
     ·exact .inr e.symm
   ·obtain ⟨h1,h2,h3⟩:=hI;simp only [model_judge_hidden.l2,ge_len,yk,if_false];exact hidden_rounds (j:=⟨m,l⟩) hn (by simp only [];omega) hok h1 h2 (λt=>by rw [h3,List.take_length])
 ·simp only [model_judge_hidden.l1,model_index,lt_len hi,if_true,idx_nat hi,yb,yj,yx,yh,add64_1 (i:=i) (by omega)];generalize m.hides[i]=h;by_cases hb:(((0≤h.table∧h.table<(m.tables.length:Int))∧(0≤h.to∧h.to<(m.tables.length:Int)))∧h.table≠h.to)
  ·simp only [grd,if_true];rw [if_neg (by simp [hb])];obtain ⟨t,u,ht,hu⟩:=hide_idx hb.1.1 hb.1.2;have hhp:hideP m h=(((t.kind==0)&&(u.kind==0))&&((decide (0≤h.column)&&decide (h.column<(t.columns.length:Int)))&&(((u.columns.length:Int)==1)&&((idx u.columns 0).getD default==(idx t.columns h.column).getD default)))):=by
    unfold hideP;rw [ht,hu];simp [hb]
   simp only [ht,hu,yb];rw [hhp];by_cases hk:(((t.kind==0)&&(u.kind==0))&&((decide (0≤h.column)&&decide (h.column<(t.columns.length:Int)))&&((u.columns.length:Int)==1)))=true
   ·have hk':=hk;simp only [yc,yd,beq_iff_eq] at hk';obtain ⟨⟨k1,k2⟩,⟨k3,k4⟩,k5⟩:=hk';obtain ⟨x,hx⟩:=idx_some (l:=u.columns) (i:=0) (by omega) (by omega);obtain ⟨y,hy⟩:=idx_some k3 k4;simp only [k1,k2,k3,k4,k5,hx,hy,yh,decide_true,beq_self_eq_true,uC,yj,yx,Bool.or_false,yA,Bool.and_self,ub,if_true];by_cases hxy:x=y
    ·simp [hxy]
    ·simp [hxy]
   ·have hf:(((((t.kind != 0)||(u.kind != 0))||(!(decide (0≤h.column)&&decide (h.column<(t.columns.length:Int)))))||((u.columns.length:Int) != 1)))=true:=by
     simp only [yc,yd,beq_iff_eq] at hk;simp only [yw,bne_iff_ne,yy,uk,yE];omega
    simp only [hf,uz,if_true];rw [← Bool.and_assoc (decide (0≤h.column)&&decide (h.column<(t.columns.length:Int))),← Bool.and_assoc];simp only [yF] at hk;rw [hk];rfl
  ·have hhp:hideP m h=false:=by
    unfold hideP;cases hx:(((decide (0≤h.table)&&decide (h.table<(m.tables.length:Int)))&&(decide (0≤h.to)&&decide (h.to<(m.tables.length:Int))))&&(h.table != h.to)) with
    | false=>rfl
    | true=>
     simp only [yc,yd,bne_iff_ne] at hx;exact absurd hx hb
   rw [hhp];simp only [grd,if_true];rw [if_pos (by
    simp only [yw,yy,uk,yE,beq_iff_eq];omega)]
   rfl
 ·simp [model_judge_hidden.l1]
def validP (m:Model):Bool:=(layoutP m.sorts m.tables&&(decide (m.families.length≤24)&&distP [] m.families))&&(consP m (rangesP m.sorts true m.tables)&&(opsP m&&(actsP m (rangesP m.sorts true m.tables).length&&hidesP m)))
theorem model_Valid_eq {n m} (hF:Fuel n) (hS:SmallM m):model_Valid n m=some (validP m):=by
 have hn:=hF.big;have hs:=hS.sorts;have ht:=hS.tables;have hf:=hS.families;have hcs:∀ t∈m.tables,t.columns.length≤1000:=λt h=>by have:=hS.tab t h;omega
 unfold model_Valid validP;rw [cells_Valid_eq hF (by omega) (by omega) hcs,model_distinct_eq hF (by omega)];simp only [yb,yj,yx,grd,if_true,yh];have e1:decide (24<(m.families.length:Int)) = !decide (m.families.length≤24):=by rw [← decide_not];exact decide_eq_decide.2 (by omega)
 rw [e1];cases hL:layoutP m.sorts m.tables with
 | false=>simp
 | true=>
  by_cases hd:(decide (m.families.length≤24)&&distP [] m.families)=true
  ·rw [hd];simp only [yc] at hd;rw [hd.1,hd.2,if_neg (by simp),cells_Ranges_eq hF (by omega) (by omega) hcs,hL];simp only [if_true,yb];obtain ⟨l1,l2,l3,l4⟩:=layoutP_tab hL;have hlen:=rangesP_len (sizes:=m.sorts) (s:=true) (l:=m.tables) λx hx=>(l4 x hx).2.2.2.2
   rw [model_constraints_eq hS (λt ht=>(l4 t ht).2.2.2.1) (by omega) (by omega),model_operations_eq hF hS,model_hidden_eq (by omega) hS];simp only [yb,yj,yh,yx,if_true];cases consP m (rangesP m.sorts true m.tables) with
   | false=>simp
   | true=>
    cases hO:opsP m with
    | false=>simp
    | true=>
     rw [model_actions_eq hF hS hO];simp
  ·have h2:(!true||!decide (m.families.length≤24)||!distP [] m.families)=true:=by
    simp only [yc,not_and,yF] at hd;cases h1:decide (m.families.length≤24) with
    | false=>rfl
    | true=>rw [hd h1];rfl
   rw [if_pos h2];simp only [yF] at hd;rw [hd];rfl
theorem ref13_Valid_eq {n m} (hn:4294967296≤n) (hS:SmallM m):ref13_Valid n m=some (validP m):=by
 have hs:=hS.sorts;have ht:=hS.tables;have hf:=hS.families;have hcs:∀ t∈m.tables,t.columns.length≤1000∧t.name.length≤4096:=λt h=>by have:=hS.tab t h;omega
 unfold ref13_Valid validP;rw [ref09_Valid_eq (by omega) (by omega) (by omega) hcs,ref13_distinct_eq (by omega) (by omega) (λw hw=>by have:=hS.fam w hw;omega)];simp only [yb,yj,yx,grd,if_true,yh];have e1:decide (24<(m.families.length:Int)) = !decide (m.families.length≤24):=by rw [← decide_not];exact decide_eq_decide.2 (by omega)
 rw [e1];cases hL:layoutP m.sorts m.tables with
 | false=>simp
 | true=>
  by_cases hd:(decide (m.families.length≤24)&&distP [] m.families)=true
  ·rw [hd];simp only [yc] at hd;rw [hd.1,hd.2,if_neg (by simp),ref13_constraints_eq hS hL (by omega),ref13_actions_eq (by omega) hS hL,ref13_hidden_eq hn hS];simp only [yb,yj,yh,yx,if_true,yA];simp only [Bool.and_assoc]
  ·have h2:(!true||!decide (m.families.length≤24)||!distP [] m.families)=true:=by
    simp only [yc,not_and,yF] at hd;cases h1:decide (m.families.length≤24) with
    | false=>rfl
    | true=>rw [hd h1];rfl
   rw [if_pos h2];simp only [yF] at hd;rw [hd];rfl
def lensP (m:Model):Bool:=(((((((decide (8<(m.sorts.length:Int)))||(decide (6<(m.tables.length:Int))))||(decide (20<(m.families.length:Int))))||(decide (60<(m.constraints.length:Int))))||(decide (8<(m.operations.length:Int))))||(decide (30<(m.actions.length:Int))))||(decide (12<(m.hides.length:Int))))
def tabF (t:Table):Bool:=decide (t.name.length≤40)&&decide (t.columns.length≤12)
def opF (o:Operation):Bool:=decide (o.name.length≤40)&&decide (o.sorts.length≤6)
def actF (a:Action):Bool:=((decide (a.arguments.length≤6)&&decide (a.effect.delta.length≤20))&&(decide (a.effect.hold.length≤10)&&decide (a.effect.updates.length≤40)))&&a.effect.hold.all λr=>decide (r.terms.length≤20)
def boundedP (m:Model):Bool:=!lensP m&&(m.tables.all tabF&&(m.families.all (λs=>decide (s.length≤40))&&(m.constraints.all (λc=>decide (c.row.terms.length≤20))&&(m.operations.all opF&&m.actions.all actF))))
theorem not_lt_le {a b:Nat}:decide ((a:Int)<(b:Int)) = !decide (b≤a):=by rw [← decide_not];exact decide_eq_decide.2 (by omega)
theorem ref13_Bounded_eq {n:Nat} {m:Model} (hn:1000000≤n):ref13_Bounded n m=some (boundedP m):=by
 unfold ref13_Bounded boundedP;have hl:(((((((decide (8<(m.sorts.length:Int)))||(decide (6<(m.tables.length:Int))))||(decide (20<(m.families.length:Int))))||(decide (60<(m.constraints.length:Int))))||(decide (8<(m.operations.length:Int))))||(decide (30<(m.actions.length:Int))))||(decide (12<(m.hides.length:Int))))=lensP m:=rfl;rw [hl];cases hlen:lensP m with
 | true=>simp [grd]
 | false=>
  simp only [lensP,ud,yE] at hlen;obtain ⟨⟨⟨⟨⟨⟨b1,b2⟩,b3⟩,b4⟩,b5⟩,b6⟩,b7⟩:=hlen;have hfew:ref09_Few n m.sorts m.tables=some (m.tables.all tabF):=by
   have:=loopF_lall (body:=ref09_Few.l1 n m.sorts m.tables) (l:=m.tables) (n:=n) (st:=λi=>(i:Int)) tabF (some false) (some true) (λrec i hi=>?_) (λrec=>?_) (by omega)
   ·simp only [Int.natCast_zero] at this;unfold ref09_Few;rw [this];cases m.tables.all tabF <;> rfl
   ·simp only [ref09_Few.l1,lt_len hi,if_true,idx_nat hi,yb,yj,yx,grd,yh,add64_1 (i:=i) (by omega)];unfold tabF;by_cases h1:m.tables[i].name.length≤40
    ·by_cases h2:m.tables[i].columns.length≤12
     ·rw [if_neg (by simp;omega),if_pos (by simp [h1,h2])]
     ·rw [if_pos (by simp;omega),if_neg (by simp [h2])]
    ·rw [if_pos (by simp;omega),if_neg (by simp [h1])]
   ·simp [ref09_Few.l1];omega
  rw [hfew];simp only [yj,yx,grd,if_true,yh,uj,uq,yA];cases m.tables.all tabF with
  | false=>simp
  | true=>
   rw [if_neg (by simp),yA];have h4:loopF (ref13_Bounded.l4 n m) n 0=some (m.actions.all actF):=by
    have:=loopF_lall (body:=ref13_Bounded.l4 n m) (l:=m.actions) (n:=n) (st:=λi=>(i:Int)) actF (some false) (some true) (λrec i hi=>?_) (λrec=>?_) (by omega)
    ·simp only [Int.natCast_zero] at this;rw [this];cases m.actions.all actF <;> rfl
    ·simp only [ref13_Bounded.l4,lt_len hi,if_true,idx_nat hi,yb];unfold actF;by_cases hx:((decide (m.actions[i].arguments.length≤6)&&decide (m.actions[i].effect.delta.length≤20))&&(decide (m.actions[i].effect.hold.length≤10)&&decide (m.actions[i].effect.updates.length≤40)))=true
     ·rw [hx,yA];simp only [yc,yd] at hx;rw [if_neg (by simp;omega)];have:=loopF_lall (body:=ref13_Bounded.l5 n i rec m.actions[i]) (l:=m.actions[i].effect.hold) (n:=n) (st:=λk=>(k:Int)) (λr=>decide (r.terms.length≤20)) (some false) (rec ((i+1:Nat):Int)) (λrec' k hk=>?_) (λrec'=>?_) (by omega)
      ·simpa using this
      ·simp only [ref13_Bounded.l5,lt_len hk,if_true,idx_nat hk,yb,add64_1 (i:=k) (by omega)];by_cases h:m.actions[i].effect.hold[k].terms.length≤20
       ·rw [if_neg (by simp;omega),if_pos (by simp [h])]
       ·rw [if_pos (by simp;omega),if_neg (by simp [h])]
      ·simp only [ref13_Bounded.l5,ge_len,yk,if_false,add64_1 (i:=i) (by omega)]
     ·rw [if_pos (by
       simp only [yc,yd] at hx;simp only [yw,yd];omega)]
      simp only [yF] at hx;rw [hx,yZ,if_neg (by simp)]
    ·simp [ref13_Bounded.l4]
   have h3:loopF (ref13_Bounded.l3 n m) n 0=some (m.operations.all opF&&m.actions.all actF):=by
    have:=loopF_lall (body:=ref13_Bounded.l3 n m) (l:=m.operations) (n:=n) (st:=λi=>(i:Int)) opF (some false) (some (m.actions.all actF)) (λrec i hi=>?_) (λrec=>?_) (by omega)
    ·simp only [Int.natCast_zero] at this;rw [this];cases m.operations.all opF <;> rfl
    ·simp only [ref13_Bounded.l3,lt_len hi,if_true,idx_nat hi,yb,yj,yx,grd,yh,add64_1 (i:=i) (by omega)];unfold opF;by_cases h1:m.operations[i].name.length≤40
     ·by_cases h2:m.operations[i].sorts.length≤6
      ·rw [if_neg (by simp;omega),if_pos (by simp [h1,h2])]
      ·rw [if_pos (by simp;omega),if_neg (by simp [h2])]
     ·rw [if_pos (by simp;omega),if_neg (by simp [h1])]
    ·simp only [ref13_Bounded.l3,ge_len,yk,if_false,h4]
   have h2:loopF (ref13_Bounded.l2 n m) n 0=some (m.constraints.all (λc=>decide (c.row.terms.length≤20))&&(m.operations.all opF&&m.actions.all actF)):=by
    have:=loopF_lall (body:=ref13_Bounded.l2 n m) (l:=m.constraints) (n:=n) (st:=λi=>(i:Int)) (λc=>decide (c.row.terms.length≤20)) (some false) (some (m.operations.all opF&&m.actions.all actF)) (λrec i hi=>?_) (λrec=>?_) (by omega)
    ·simp only [Int.natCast_zero] at this;rw [this];cases m.constraints.all (λc=>decide (c.row.terms.length≤20)) <;> rfl
    ·simp only [ref13_Bounded.l2,lt_len hi,if_true,idx_nat hi,yb,add64_1 (i:=i) (by omega)];by_cases h:m.constraints[i].row.terms.length≤20
     ·rw [if_neg (by simp;omega),if_pos (by simp [h])]
     ·rw [if_pos (by simp;omega),if_neg (by simp [h])]
    ·simp only [ref13_Bounded.l2,ge_len,yk,if_false,h3]
   have:=loopF_lall (body:=ref13_Bounded.l1 n m) (l:=m.families) (n:=n) (st:=λi=>(i:Int)) (λs=>decide (s.length≤40)) (some false) (some (m.constraints.all (λc=>decide (c.row.terms.length≤20))&&(m.operations.all opF&&m.actions.all actF))) (λrec i hi=>?_) (λrec=>?_) (by omega)
   ·simp only [Int.natCast_zero] at this;rw [this];cases m.families.all (λs=>decide (s.length≤40)) <;> rfl
   ·simp only [ref13_Bounded.l1,lt_len hi,if_true,idx_nat hi,yb,add64_1 (i:=i) (by omega)];by_cases h:m.families[i].length≤40
    ·rw [if_neg (by simp;omega),if_pos (by simp [h])]
    ·rw [if_pos (by simp;omega),if_neg (by simp [h])]
   ·simp only [ref13_Bounded.l1,ge_len,yk,if_false,h2]
theorem boundedP_small {m:Model} (h:boundedP m=true):SmallM m:=by
 simp only [boundedP,lensP,tabF,opF,actF,yc,yy,ud,yE,yr,yd] at h;obtain ⟨⟨⟨⟨⟨⟨⟨b1,b2⟩,b3⟩,b4⟩,b5⟩,b6⟩,b7⟩,c1,c2,c3,c4,c5⟩:=h;exact ⟨by omega,by omega,c1,by omega,c2,by omega,c3,by omega,c4,by omega,λa ha=>by
  obtain ⟨⟨⟨p1,p2⟩,p3,p4⟩,p5⟩:=c5 a ha;exact ⟨p1,p2,p3,p4,p5⟩,by omega⟩
def prodP:Int→List Range→Bool
 | _,[]=>true
 | p,r::l=>!decide (4096<mul64 p (add64 (sub64 r.hi r.lo) 1))&&prodP (mul64 p (add64 (sub64 r.hi r.lo) 1)) l
def strictR (m:Model):List Range:=if layoutP m.sorts m.tables=true then rangesP m.sorts true m.tables else []
def fewP (m:Model):Bool:=((boundedP m&&decide (m.actions.length≤12))&&decide (m.constraints.length≤40))&&(m.actions.all (λa=>decide (a.effect.hold.length≤4))&&(decide ((strictR m).length≤12)&&prodP 1 (strictR m)))
theorem ref13_strict_eq {n:Nat} {m:Model} (hn:1000000≤n) (hS:SmallM m):ref13_strict n m=some (strictR m):=by
 have hs:=hS.sorts;have ht:=hS.tables;unfold ref13_strict;rw [ref09_Ranges_eq hn (by omega) (by omega) (λt h=>by have:=hS.tab t h;omega)];rfl
theorem strictR_len {m:Model} (hS:SmallM m):(strictR m).length≤2592:=by
 have ht:=hS.tables;unfold strictR;split
 ·rename_i hL;obtain ⟨l1,l2,l3,l4⟩:=layoutP_tab hL;have:=rangesP_len (sizes:=m.sorts) (s:=true) (l:=m.tables) λx hx=>(l4 x hx).2.2.2.2
  omega
 ·simp
theorem ref13_Few_eq {n:Nat} {m:Model} (hn:1000000≤n):ref13_Few n m=some (fewP m):=by
 unfold ref13_Few fewP;rw [ref13_Bounded_eq hn,yb];have e1:decide (12<(m.actions.length:Int)) = !decide (m.actions.length≤12):=not_lt_le (a:=12);have e2:decide (40<(m.constraints.length:Int)) = !decide (m.constraints.length≤40):=not_lt_le (a:=40);rw [e1,e2,← Bool.not_and,← Bool.not_and];cases hb:(boundedP m&&decide (m.actions.length≤12)&&decide (m.constraints.length≤40)) with
 | false=>simp
 | true=>
  simp only [yc,yd] at hb;have hS:=boundedP_small hb.1.1;have hsl:=strictR_len hS;have T:(if (decide (12<((strictR m).length:Int)))=true then some false else loopF (ref13_Few.l2 n (strictR m)) n (1,0))=some (decide ((strictR m).length≤12)&&prodP 1 (strictR m)):=by
   by_cases h:(strictR m).length≤12
   ·rw [if_neg (by simp;omega),decide_eq_true h,yA];refine loopF_I (body:=ref13_Few.l2 n (strictR m)) (len:=(strictR m).length) (st:=λ(p:Int) i=>(p,(i:Int))) (g:=λi p=>some (prodP p ((strictR m).drop i))) (λ_ _=>True) (λrec i p hi _ hr=>?_) (λrec p _=>?_) n 0 1 (yC _) (by omega) trivial
    ·simp only [ref13_Few.l2,lt_len hi,if_true,idx_nat hi,yb,add64_1 (i:=i) (by omega),hr _ trivial];rw [drop_cons hi,prodP];cases decide (4096<mul64 p (add64 (sub64 (strictR m)[i].hi (strictR m)[i].lo) 1)) <;> simp
    ·simp [ref13_Few.l2,prodP]
   ·rw [if_pos (by simp;omega),decide_eq_false h,yZ]
  have:=loopF_lall (body:=ref13_Few.l1 n m) (l:=m.actions) (n:=n) (st:=λi=>(i:Int)) (λa=>decide (a.effect.hold.length≤4)) (some false) (some (decide ((strictR m).length≤12)&&prodP 1 (strictR m))) (λrec i hi=>?_) (λrec=>?_) (by omega)
  ·simp only [Int.natCast_zero] at this;rw [if_neg (by simp),this];cases m.actions.all (λa=>decide (a.effect.hold.length≤4)) <;> simp
  ·simp only [ref13_Few.l1,lt_len hi,if_true,idx_nat hi,yb,add64_1 (i:=i) (by omega)];by_cases h:m.actions[i].effect.hold.length≤4
   ·rw [if_neg (by simp;omega),if_pos (by simp [h])]
   ·rw [if_pos (by simp;omega),if_neg (by simp [h])]
  ·simp only [ref13_Few.l1,ge_len,yk,if_false,ref13_strict_eq hn hS,yb,T]
theorem fewP_small {m:Model} (h:fewP m=true):SmallM m:=by
 simp only [fewP,yc] at h;exact boundedP_small h.1.1.1
structure ValidM (m:Model):Prop where
 lay:layoutP m.sorts m.tables=true
 fams:m.families.length≤24∧distP [] m.families=true
 cons:consP m (rangesP m.sorts true m.tables)=true
 ops:opsP m=true
 acts:actsP m (rangesP m.sorts true m.tables).length=true
 hid:hidesP m=true
theorem validP_iff {m}:validP m=true↔ValidM m:=by
 simp only [validP,yc,yd];exact ⟨λ⟨⟨a,b,c⟩,d,e,f,g⟩=>⟨a,⟨b,c⟩,d,e,f,g⟩,λ⟨a,⟨b,c⟩,d,e,f,g⟩=>⟨⟨a,b,c⟩,d,e,f,g⟩⟩
def questP (m:Model) (q:Question):Bool:=
 (((decide (0≤q.e)&&decide (q.e<(m.actions.length:Int)))&&(decide (0≤q.f)&&decide (q.f<(m.actions.length:Int))))&&decide (0≤q.target.index)) &&
 (if q.target.hold=true then decide (q.target.index<(((idx m.actions q.e).getD default).effect.hold.length:Int)) else decide (q.e≤q.f)&&decide (q.target.index<(m.constraints.length:Int)))
theorem awake_spec:law24_awake 18446744073709551616=some true:=by decide +kernel
theorem keywords_spec:(lexer_keywords 18446744073709551616).map (λm=>m.es.map (λe=>e.2))=some (kwL.map λk=>(k,true)):=by decide +kernel
theorem fuel_N:Fuel 18446744073709551616:=by
 refine ⟨by decide,?_⟩;have h:=keywords_spec;cases hk:lexer_keywords 18446744073709551616 with
 | none=>rw [hk] at h;cases h
 | some m=>
  rw [hk] at h;simp only [yM,yf] at h;refine ⟨m,rfl,λe he=>?_,λk=>?_⟩
  ·have:e.2∈m.es.map (λe=>e.2):=List.mem_map_of_mem he;rw [h] at this;simp only [y0] at this;obtain ⟨x,-,hx⟩:=this;rw [← hx]
  ·have:m.es.map (λe=>e.2.1)=kwL:=by
    have e1:m.es.map (λe=>e.2.1)=(m.es.map (λe=>e.2)).map (·.1):=by rw [uG];rfl
    rw [e1,h,uG];exact List.map_id kwL
   rw [this]
theorem valid_con {m} (hV:ValidM m) {c} (hc:c∈m.constraints):plainP (rangesP m.sorts true m.tables).length c=true∨acyP m c=true:=by
 have h:=hV.cons;simp only [consP,yc] at h;obtain ⟨i,hi,rfl⟩:=List.mem_iff_getElem.1 hc;have:=allR_0.1 h.2 i hi;simp only [idx_nat hi,yh,conP,yc,yw] at this;exact this.1.2
def inBox:List Range→List Int→Bool
 | r::rs,x::xs=>(decide (r.lo≤x)&&decide (x≤r.hi))&&inBox rs xs
 | [],[]=>true
 | _,_=>false
def termOK (k:Nat) (t:Term):Prop:=0≤t.cell∧t.cell<(k:Int)∧-1000≤t.factor∧t.factor≤1000
structure GraphIn (c:Constraint) (s:List Int) (size:Nat):Prop where
 sz:c.size=(size:Int)
 pos:1≤size
 six:size≤6
 first:0≤c.first
 fits:c.first+(size*size:Nat)≤(s.length:Int)
 len:s.length≤1000
inductive ConIn (c:Constraint) (k:Nat):Prop
 | row:c.kind=0→(∀ t∈c.row.terms,termOK k t)→c.row.terms.length≤1000→(-4000000000≤c.row.bound∧c.row.bound≤4000000000)→ConIn c k
 | graph (size:Nat):c.kind=1→c.size=(size:Int)→1≤size→size≤6→0≤c.first→c.first+(size*size:Nat)≤(k:Int)→ConIn c k

def boxM (m:Model):List Range:=rangesP m.sorts true m.tables
theorem rowP_terms {K}:∀ {l:List Term} {last:Int},rowP K last l=true→-1≤last→∀ t∈l,termOK K t
 | [],_,_,_,t,ht=>by simp at ht
 | x::l,last,h,hl,t,ht=>by
  simp only [rowP,aroundP,yc,yd] at h;rcases yD.1 ht with rfl | ht
  ·exact ⟨by omega,h.1.1.1.2,by omega,by omega⟩
  ·exact rowP_terms h.2 (by omega) t ht
def smallD (d:List Change):Prop:=∀ x∈d,-1000000000≤x.add∧x.add≤1000000000
theorem ref16_Cells_eq {n m t} (hc:t.columns.all (colOK m.sorts)=true) (hl:t.columns.length≤1000) (hn:1000000≤n):ref16_Cells n m t=some (widthP m.sorts t.columns 1):=by
 have:=loopF_g (body:=ref16_Cells.l1 n m t) (len:=t.columns.length) (st:=λi=>(widthP m.sorts (t.columns.take i) 1,(i:Int))) (g:=λ_=>some (widthP m.sorts t.columns 1)) (λrec i hi hr=>?_) (λrec=>?_) n 0 (yC _) (by omega)
 ·simpa [ref16_Cells,widthP] using this
 ·rw [yI hi,widthP_append] at hr;simp only [widthP] at hr;simp only [ref16_Cells.l1,lt_len hi,if_true,idx_nat hi,yb,idx_col (yr.1 hc _ (yt hi)),add64_1 (i:=i) (by omega),hr]
 ·simp [ref16_Cells.l1]
theorem ref16_Total_eq {n m} (hL:layoutP m.sorts m.tables=true) (hn:1000000≤n):ref16_Total n m=some ((boxM m).length:Int):=by
 obtain ⟨l1,l2,l3,l4⟩:=layoutP_tab hL;unfold ref16_Total;have:=loopF_g (body:=ref16_Total.l1 n m) (len:=m.tables.length) (st:=λi=>(((rangesP m.sorts true (m.tables.take i)).length:Int),(i:Int))) (g:=λ_=>some ((boxM m).length:Int)) (λrec i hi hr=>?_) (λrec=>?_) n 0 (yC _) (by omega)
 ·simpa [rangesP] using this
 ·obtain ⟨-,-,c1,c2,c3,c4⟩:=l4 _ (yt hi);have hlen:=rangesP_len (sizes:=m.sorts) (s:=true) (l:=m.tables.take i) λx hx=>(l4 x (List.mem_of_mem_take hx)).2.2.2.2
  simp only [yX] at hlen;rw [rangesP_snoc hi] at hr;have hcell:=ref16_Cells_eq (n:=n) (m:=m) (t:=m.tables[i]) c2 (by omega) hn;simp only [ref16_Total.l1,jn,lt_len hi,if_true,idx_nat hi,yb,ref16_Strict,hcell,add64_1 (i:=i) (by omega)];by_cases hst:(m.tables[i].kind==0||m.tables[i].kind==1)=true
  ·have hst':(strictP m.tables[i].kind==true)=true:=by simpa [strictP] using hst
   rw [if_pos hst'] at hr;rw [if_pos hst];have e:add64 ((rangesP m.sorts true (m.tables.take i)).length:Int) (widthP m.sorts m.tables[i].columns 1)=((rangesP m.sorts true (m.tables.take i)++List.replicate (widthP m.sorts m.tables[i].columns 1).toNat m.tables[i].range).length:Int):=by
    unfold add64;rw [w64_id (by omega) (by omega),yS,uf];omega
   rw [e];exact hr
  ·have hst':¬ (strictP m.tables[i].kind==true)=true:=by simpa [strictP] using hst
   rw [if_neg hst'] at hr;rw [if_neg hst];exact hr
 ·simp [ref16_Total.l1,boxM]
structure StateOK (m:Model) (s:List Int):Prop where
 len:s.length=(boxM m).length
 small:∀ x∈s,-9999≤x∧x≤9999

structure GraphOK (g:DGraph) (K:Nat):Prop where
 size:g.size=(K:Int)
 le:K≤6
 len:g.edges.length=K*K
def hasP (g:DGraph) (a b:Nat):Bool:=g.edges.getD (a*g.size.toNat+b) false

theorem add64_sm {x y} (h1 : -9223372036854775808≤x+y) (h2:x+y≤9223372036854775807):add64 x y=x+y:=w64_id h1 h2
theorem mul64_sm {x y} (h1 : -9223372036854775808≤x*y) (h2:x*y≤9223372036854775807):mul64 x y=x*y:=w64_id h1 h2
def shortR (R:List Row):Prop:=R.length<1000000∧∀ r∈R,r.terms.length<1000000
structure SysOK (R:List Row) (G:List Graph) (cs:List (List Row)):Prop where
 rows:shortR R
 graphs:G.length<1000000∧∀ g∈G,g.least.length<1000000
 cases:cs.length<1000000∧∀ rows∈cs,shortR rows
structure ConOK (K:Nat) (c:Constraint):Prop where
 kind:c.kind=0∨c.kind=1
 len:c.row.terms.length≤1000
 sz:c.kind=1→∃ s:Nat,c.size=(s:Int)∧1≤s∧s≤6∧0≤c.first∧c.first+((s*s:Nat):Int)≤(K:Int)
structure ActOK (a:Action):Prop where
 delta:a.effect.delta.length≤20
 hold:a.effect.hold.length≤10
 terms:∀ r∈a.effect.hold,r.terms.length≤1000


inductive Weaker:List Row→List Row→Prop
 | nil:Weaker [] []
 | cons {r s:Row} {R S:List Row}:r.terms=s.terms→r.bound≤s.bound→Weaker R S→Weaker (r::R) (s::S)


section
variable (E:Nat→Nat→Bool) (K:Nat)
end
def ones (K:Nat):List (List Int):=(List.range K).map λ(i:Nat)=>[(i:Int)]
structure PathL (K:Nat) (l:List Int):Prop where
 nd:l.Nodup
 pos:1≤l.length
 mem:∀ x∈l,0≤x∧x<(K:Int)

structure SameA (a:Action):Prop where
 add:∀ c,addP c a.effect.delta 0=addedP a.effect.delta c
 len:a.effect.delta.length≤20
section
variable {n:Nat} {c:Constraint} {a b:Action} {K:Nat} (ha:SameA a) (hb:SameA b) (h6:K≤6) (hn:1000000≤n)
include ha hb h6 hn
end


section
variable {E:Nat→Nat→Bool} {K:Nat}
structure Walk (E:Nat→Nat→Bool) (K p:Nat) (f:Nat→Nat):Prop where
 per:∀ i,f (i+p)=f i
 lt:∀ i,f i<K
 edge:∀ i,E (f i) (f (i+1))=true
end
theorem sto_at {α:Type} {l:List α} {i:Nat} {x:α} (h:i<l.length):sto l (i:Int) x=some (l.set i x):=by
 unfold sto;simp [h]


section
variable {c:Constraint} {K:Nat} {box:List Range} {s:List Int} {da db:List Change}
end
structure Scene (n:Nat) (m:Model) (q:Question) (a b:Action) (s:List Int):Prop where
 small:SmallM m
 valid:ValidM m
 quest:questP m q=true
 ha:idx m.actions q.e=some a
 hb:idx m.actions q.f=some b
 box:inBox (boxM m) s=true
 len:(boxM m).length≤100
 fuel:4294967296≤n
section
variable {n:Nat} {m:Model} {q:Question} {rows:List Int} {a b:Action} {s:List Int}
end

def elemP (s:Swap) (x:Int):Int:=if x=s.a then s.b else if x=s.b then s.a else x
structure SwapOK (sizes:List Int) (s:Swap):Prop where
 sort:colOK sizes s.sort=true
 a:0≤s.a
 ab:s.a<s.b
 b:s.b<sizes.getD s.sort.toNat 0
def nK (sizes:List Int) (c:Int):Nat:=(sizes.getD c.toNat 0).toNat
def colS (s:Swap) (c:Int) (x:Nat):Nat:=if c=s.sort then (elemP s (x:Int)).toNat else x
theorem nK_ok {sizes:List Int} (hs:sizes.all sizeOK=true) {c} (hc:colOK sizes c=true):((nK sizes c:Nat):Int)=sizes.getD c.toNat 0∧1≤nK sizes c∧nK sizes c≤6:=by
 have:=yr.1 hs _ (idx_mem (idx_col hc));simp only [sizeOK,yc,yd] at this;unfold nK;omega
section
variable {sizes:List Int} {s:Swap} (h:SwapOK sizes s)
include h
end
def digP (sizes:List Int) (s:Swap):List Int→Nat→Nat
 | [],_=>0
 | c::cs,r=>colS s c (r % nK sizes c)+nK sizes c*digP sizes s cs (r / nK sizes c)
def wN (sizes:List Int):List Int→Nat
 | []=>1
 | c::cs=>nK sizes c*wN sizes cs
theorem wN_append (sizes:List Int):∀ l m:List Int,wN sizes (l++m)=wN sizes l*wN sizes m
 | [],m=>by simp [wN]
 | c::l,m=>by simp only [yW,wN,wN_append sizes l m,Nat.mul_assoc]
theorem width_w {sizes:List Int} (hs:sizes.all sizeOK=true):∀ (cols:List Int) (x:Nat),cols.all (colOK sizes)=true→x*6 ^ cols.length≤1000000→widthP sizes cols (x:Int)=((x*wN sizes cols.reverse:Nat):Int)
 | [],x,_,_=>by simp [widthP,wN]
 | c::cols,x,hc,hx=>by
  simp only [um,yc] at hc;obtain ⟨k1,k2,k3⟩:=nK_ok hs hc.1;rw [yR,Nat.pow_succ] at hx;have hp:1≤6 ^ cols.length:=Nat.one_le_pow _ _ (by decide);have h1:x*nK sizes c*6 ^ cols.length≤1000000:=by
   refine uc ?_ hx;rw [Nat.mul_assoc];refine Nat.mul_le_mul_left _ ?_;rw [Nat.mul_comm];exact Nat.mul_le_mul_left _ k3
  have h2:x*nK sizes c≤1000000:=uc (Nat.le_mul_of_pos_right _ hp) h1;have e:mul64 (x:Int) (sizes.getD c.toNat 0)=((x*nK sizes c:Nat):Int):=by
   rw [← k1,mul64_sm (by rw [← uu];omega) (by rw [← uu];omega),uu]
  rw [widthP,e,width_w hs cols _ hc.2 h1,List.reverse_cons,wN_append];simp only [wN,Nat.mul_one];rw [Nat.mul_assoc,Nat.mul_comm (nK sizes c)]
theorem width_3 {sizes:List Int} (hs:sizes.all sizeOK=true) {cols:List Int} (hc:cols.all (colOK sizes)=true) (h3:cols.length≤3):widthP sizes cols 1=((wN sizes cols.reverse:Nat):Int)∧1≤wN sizes cols.reverse∧wN sizes cols.reverse≤216:=by
 have hp:6 ^ cols.length≤6 ^ 3:=Nat.pow_le_pow_right (by decide) h3;have e:=width_w hs cols 1 hc (by omega);rw [Nat.one_mul] at e;have:=widthP_bound hs hc h3;refine ⟨e,?_,?_⟩ <;> (rw [show ((1:Nat):Int)=1 from rfl] at e;omega)
def mvT (sizes:List Int) (s:Swap) (strict:Bool):List Table→Int→Int
 | [],_=>-1
 | t::l,c=>if (strictP t.kind==strict&&(decide (t.first≤c)&&decide (c<t.first+widthP sizes t.columns 1)))=true then t.first+((digP sizes s t.columns.reverse (c - t.first).toNat:Nat):Int) else mvT sizes s strict l c
theorem tab_ok {sizes:List Int} {t:Table} (h:tabP sizes t=true):t.columns.length≤3∧t.columns.all (colOK sizes)=true:=by
 simp only [tabP,yc,yd] at h;exact h.1.2
theorem lay_first {sizes:List Int} (hs:sizes.all sizeOK=true):∀ {l:List Table} {seen:List (List UInt8)} {a b:Int},layP sizes seen a b l=true→0≤a→0≤b→a+216*(l.length:Int)≤1000000→b+216*(l.length:Int)≤1000000 →
  ∀ t∈l,0≤t.first∧t.first≤1000000∧(if strictP t.kind=true then a else b)≤t.first
 | [],_,_,_,_,_,_,_,_,t,ht=>by simp at ht
 | x::l,seen,a,b,h,ha,hb,h1,h2,t,ht=>by
  have hw:=width_3 hs (tab_ok (layP_tab h x (by simp))).2 (tab_ok (layP_tab h x (by simp))).1;simp only [layP,yc] at h;have h3:=h.2;simp only [yR] at h1 h2;have hcast:((l.length+1:Nat):Int)=(l.length:Int)+1:=by omega
  rw [hcast] at h1 h2;by_cases hx:strictP x.kind=true
  ·rw [if_pos hx] at h3;simp only [yc,beq_iff_eq] at h3;rw [add64_sm (by omega) (by omega)] at h3;rcases yD.1 ht with rfl | ht
   ·rw [if_pos hx];omega
   ·have:=lay_first hs h3.2 (by omega) hb (by omega) (by omega) t ht;by_cases e2:strictP t.kind=true
    ·rw [if_pos e2] at this ⊢;omega
    ·rw [if_neg e2] at this ⊢;omega
  ·rw [if_neg hx] at h3;simp only [yc,beq_iff_eq] at h3;rw [add64_sm (by omega) (by omega)] at h3;rcases yD.1 ht with rfl | ht
   ·rw [if_neg hx];omega
   ·have:=lay_first hs h3.2 ha (by omega) (by omega) (by omega) t ht;by_cases e2:strictP t.kind=true
    ·rw [if_pos e2] at this ⊢;omega
    ·rw [if_neg e2] at this ⊢;omega
theorem lay_big {m:Model} (hL:layoutP m.sorts m.tables=true):m.sorts.all sizeOK=true∧layP m.sorts [] 0 0 m.tables=true∧m.tables.length≤12:=by
 obtain ⟨-,l2,l3,-⟩:=layoutP_tab hL;simp only [layoutP,yc] at hL;exact ⟨l3,hL.2,l2⟩
def mvS (sizes:List Int) (s:Swap) (strict:Bool):List Table→Int→Int
 | [],_=>-1
 | t::l,c=>if (strictP t.kind==strict&&(decide (0≤sub64 c t.first)&&decide (sub64 c t.first<widthP sizes t.columns 1)))=true then t.first+((digP sizes s t.columns.reverse (sub64 c t.first).toNat:Nat):Int) else mvS sizes s strict l c
section
variable {sizes:List Int} {s:Swap} (h:SwapOK sizes s) (hs:sizes.all sizeOK=true)
include h hs
end
def mvC (m:Model) (s:Swap) (c:Int):Int:=mvT m.sorts s true m.tables c
structure Swp (m:Model) (s:Swap):Prop where
 ok:SwapOK m.sorts s
 lay:layoutP m.sorts m.tables=true
def insT (t:Term):List Term→List Term
 | []=>[t]
 | u::l=>if t.cell<u.cell then t::u::l else u::insT t l
def mvt (m:Model) (s:Swap) (t:Term):Term:=⟨mvC m s t.cell,t.factor⟩
def rowL (m:Model) (s:Swap) (l:List Term) (acc:List Term):List Term:=l.foldl (λacc t=>insT (mvt m s t) acc) acc
def rowM (m:Model) (s:Swap) (r:Row):Row:=⟨rowL m s r.terms [],r.bound⟩
def deltaB (m:Model) (s:Swap) (e f:Effect):Bool:=e.delta.all λd=>f.delta.any λg=>(g.cell==mvC m s d.cell)&&(g.add==d.add)
def holdB (m:Model) (s:Swap) (e f:Effect):Bool:=e.hold.all λr=>decide (e.hold.count r=f.hold.count (rowM m s r))
def updB (m:Model) (s:Swap) (e f:Effect):Bool:=e.updates.all λu=>decide (e.updates.count u=f.updates.count ⟨u.kind,mvS m.sorts s false m.tables u.cell,u.value⟩)
def alikeB (m:Model) (s:Swap) (e f:Effect):Bool:=(decide (e.delta.length=f.delta.length)&&(decide (e.hold.length=f.hold.length)&&decide (e.updates.length=f.updates.length)))&&(deltaB m s e f&&(holdB m s e f&&updB m s e f))
structure EffS (e:Effect):Prop where
 delta:e.delta.length≤1000∧∀ d∈e.delta,-1000000≤d.cell∧d.cell≤1000000
 hold:e.hold.length≤1000∧∀ r∈e.hold,r.terms.length≤500∧∀ t∈r.terms,-1000000≤t.cell∧t.cell≤1000000
 upd:e.updates.length≤1000
def argM (s:Swap) (sorts args:List Int):List Int:=(List.range args.length).map λi:Nat=>if sorts.getD i 0=s.sort then elemP s (args.getD i 0) else args.getD i 0
def actB (m:Model) (s:Swap) (a b:Action):Bool:=(b.operation==a.operation&&decide (b.arguments=argM s (opAt m a).sorts a.arguments))&&alikeB m s a.effect b.effect
structure ActS (m:Model):Prop where
 len:m.actions.length≤1000
 act:∀ a∈m.actions,EffS a.effect∧(∃ o,idx m.operations a.operation=some o∧o.sorts.length=a.arguments.length)∧a.arguments.length≤100
def fstP (p:Nat→Bool):Nat→Nat→Option Nat
 | _,0=>none
 | i,k+1=>if p i=true then some i else fstP p (i+1) k
def conAt (m:Model) (i:Nat):Constraint:=m.constraints.getD i default
def sameC (c d:Constraint):Bool:=((d.kind==c.kind)&&(d.family==c.family))&&decide (d.row=c.row)
def rankP (m:Model) (i:Nat):Nat:=(m.constraints.take i).countP (sameC (conAt m i))
def conB (m:Model) (s:Swap) (i j:Nat):Bool:=((((conAt m j).kind==(conAt m i).kind)&&((conAt m j).family==(conAt m i).family))&&decide ((conAt m j).row=rowM m s (conAt m i).row))&&decide (rankP m j=rankP m i)
structure ConS (m:Model):Prop where
 len:m.constraints.length≤1000
 con:∀ c∈m.constraints,c.row.terms.length≤500∧∀ t∈c.row.terms,-1000000≤t.cell∧t.cell≤1000000
def risT (l:List Term):Prop:=l.Pairwise λa b=>a.cell<b.cell
structure RowIn (m:Model) (r:Row):Prop where
 ris:risT r.terms
 term:∀ t∈r.terms,termOK (boxM m).length t
section
variable {m:Model} {s:Swap} (h:Swp m s)
include h
end
structure EffIn (m:Model) (e:Effect):Prop where
 nd:(e.delta.map (·.cell)).Nodup
 cell:∀ d∈e.delta,0≤d.cell∧d.cell<((boxM m).length:Int)
 hold:∀ r∈e.hold,RowIn m r
section
variable {m:Model} {s:Swap} (h:Swp m s)
include h
end
theorem box_len {m:Model} (hS:SmallM m) (hL:layoutP m.sorts m.tables=true):(boxM m).length≤2592:=by
 obtain ⟨l1,l2,l3,l4⟩:=layoutP_tab hL;have:=rangesP_len (sizes:=m.sorts) (s:=true) (l:=m.tables) λt ht=>(l4 t ht).2.2.2.2
 have:=hS.tables;unfold boxM;omega
def rhoI (m:Model) (s:Swap) (a:Action):Int:=ixP (actB m s a) m.actions 0
def sigI (m:Model) (s:Swap) (i:Nat):Nat:=if (conAt m i).kind=1 then i else (fstP (conB m s i) 0 m.constraints.length).getD 0
def symB (m:Model) (s:Swap):Bool:=(m.actions.all λa=>decide (0≤rhoI m s a))&&allR (λi=>decide ((conAt m i).kind=1)||(fstP (conB m s i) 0 m.constraints.length).isSome) 0 m.constraints.length
structure Sym (m:Model) (s:Swap):Prop where
 small:SmallM m
 valid:ValidM m
 swap:SwapOK m.sorts s
 sym:symB m s=true
section
variable {m:Model} {s:Swap} (h:Sym m s)
include h
end
structure TgtMv (m:Model) (s:Swap) (q p:Question) (a A:Action):Prop where
 hold:p.target.hold=q.target.hold
 con:q.target.hold=false→∃ i:Nat,i<m.constraints.length∧q.target.index=(i:Int)∧p.target.index=((sigI m s i:Nat):Int)
 row:q.target.hold=true→∃ r,idx a.effect.hold q.target.index=some r∧idx A.effect.hold p.target.index=some (rowM m s r)
section
variable {m:Model} {s:Swap} {q p:Question} {a b A B:Action} (h:Sym m s)
include h
end
structure QMv (m:Model) (s:Swap) (q p:Question) (a b:Action):Prop where
 out:∃ (k l:Nat) (hk:k<m.actions.length) (hl:l<m.actions.length),actB m s a m.actions[k]=true∧actB m s b m.actions[l]=true∧(q.e=q.f→k=l)∧TgtMv m s q p a m.actions[k] ∧
  (q.target.hold=true→p.e=(k:Int)∧p.f=(l:Int))∧(q.target.hold=false→p.e≤p.f∧((p.e=(k:Int)∧p.f=(l:Int))∨(p.e=(l:Int)∧p.f=(k:Int))))

section
variable {m:Model} (hS:SmallM m) (hV:ValidM m)
include hS hV
end

structure ActD (K:Nat) (d:List Change):Prop where
 small:smallD d
 cell:∀ e∈d,0≤e.cell∧e.cell<(K:Int)
 nd:(d.map (·.cell)).Nodup
 len:d.length≤1000
def lowS (s:List Int):Prop:=∀ v∈s,-1099511627776≤v∧v≤1099511627776
structure SceneM (n:Nat) (m:Model) (q:Question) (a b:Action) (s:List Int):Prop where
 small:SmallM m
 valid:ValidM m
 quest:questP m q=true
 ha:idx m.actions q.e=some a
 hb:idx m.actions q.f=some b
 len:s.length=(boxM m).length
 low:lowS s
 fuel:4294967296≤n
section
variable {n:Nat} {m:Model} {q:Question} {rows:List Int} {a b:Action} {s:List Int}
end
section
variable {n:Nat} {m:Model} {q:Question} {rows:List Int} {a b:Action} {s:List Int}
end
section
variable {n:Nat} {m:Model} {s:Scenario} {rows:List Int} (hF:Fuel n) (hS:SmallM m) (hl:lowS s.state)
include hF hS hl
omit hF hS hl in
end
theorem big1:(1000000:Nat)≤18446744073709551616:=by decide
theorem big2:(4294967296:Nat)≤18446744073709551616:=by decide
theorem cat_some {a b:List UInt8} (h:a.length+b.length≤9223372036854775807):cat a b=some (a++b):=if_pos h
theorem decD_small {u:Nat} (h:u<10):Lib.decDigits u=[UInt8.ofNat (48+u)]:=by rw [Lib.decDigits,dif_pos h]
theorem decD_big {u:Nat} (h:¬ u<10):Lib.decDigits u=Lib.decDigits (u / 10)++[UInt8.ofNat (48+u % 10)]:=by rw [Lib.decDigits,dif_neg h]
theorem decD_len:∀ (k u:Nat),u<10 ^ (k+1)→(Lib.decDigits u).length≤k+1
 | 0,u,h=>by rw [decD_small (by simpa using h)];simp
 | k+1,u,h=>by
  by_cases hu:u<10
  ·rw [decD_small hu];simp
  ·rw [decD_big hu]
   have:=decD_len k (u / 10) (by rw [Nat.pow_succ] at h;omega)
   simp;omega
theorem p20:(10:Nat) ^ (19+1)=100000000000000000000:=by decide
theorem itoaL_len {x:Int} (h0 : -9223372036854775808≤x) (h1:x≤9223372036854775807):(itoaL x).length≤21:=by
 rw [itoaL_eq h0 h1]
 unfold Lib.itoa
 split
 ·have:=decD_len 19 x.natAbs (by rw [p20];omega)
  simp;omega
 ·have:=decD_len 19 x.toNat (by rw [p20];omega)
  omega
theorem Itoa_some {n:Nat} {x:Int} (h0 : -9223372036854775808≤x) (h1:x≤9223372036854775807):strconv_Itoa n x=some (itoaL x):=if_pos ⟨h0,h1⟩
def listP (sep:List UInt8) (l:List Int):List UInt8:=Lib.join (l.map itoaL) sep
theorem join_len (sep:List UInt8) (B:Nat):∀ l:List (List UInt8),(∀ x∈l,x.length≤B)→(Lib.join l sep).length≤(B+sep.length)*l.length
 | [],_=>by simp [Lib.join_nil]
 | x::l,h=>by
  have hx:=h x (by simp)
  have ih:∀ l:List (List UInt8),(∀ x∈l,x.length≤B)→(Lib.joinTail sep l).length≤(B+sep.length)*l.length:=by
   intro l
   induction l with
   | nil=>intro _;simp [Lib.joinTail]
   | cons y l ih=>
    intro h
    have h1:=h y (by simp)
    have h2:=ih λz hz=>h z (by simp [hz])
    simp only [Lib.joinTail,yL,List.flatten_cons,yS,yR] at h2 ⊢
    rw [Nat.mul_succ];omega
  have:=ih l λz hz=>h z (by simp [hz])
  rw [Lib.join_cons,yS,yR,Nat.mul_succ];omega
def wide64 (l:List Int):Prop:=∀ x∈l,-9223372036854775807≤x∧x≤9223372036854775807
theorem listP_len {sep:List UInt8} {l:List Int} (hl:wide64 l):(listP sep l).length≤(21+sep.length)*l.length:=by
 unfold listP
 have:=join_len sep 21 (l.map itoaL) λx hx=>by
  obtain ⟨y,hy,rfl⟩:=y0.1 hx
  have:=hl y hy
  exact itoaL_len (by omega) this.2
 simpa using this
theorem Join_some {n:Nat} {l:List (List UInt8)} {sep:List UInt8} (h1:l.length≤1000000) (h2:(Lib.join l sep).length≤1000000000):strings_Join n l sep=some (Lib.join l sep):=if_pos ⟨by omega,by omega⟩
theorem joined_eq {n:Nat} {l:List Int} {sep:List UInt8} {f:Int→Option (List UInt8)} {g:Int→List UInt8} (hf:∀ x∈l,f x=some (g x)) (hl:l.length≤1000) (hg:∀ x∈l,(g x).length≤100000) (hs:sep.length≤10) (hn:1000000≤n):scenario_joined_int n l sep f=some (Lib.join (l.map g) sep):=by
 have hj:(Lib.join (l.map g) sep).length≤(100000+sep.length)*(l.map g).length:=join_len sep 100000 _ λx hx=>by
  obtain ⟨y,hy,rfl⟩:=y0.1 hx
  exact hg y hy
 rw [yO] at hj
 have hj2:(100000+sep.length)*l.length≤100010*1000:=ul (by omega) hl
 have:=loopF_g (body:=scenario_joined_int.l1 n l sep f) (len:=l.length) (st:=λi=>((l.take i).map g,(i:Int))) (g:=λ_=>some (Lib.join (l.map g) sep)) (λrec i hi hr=>?_) (λrec=>?_) n 0 (yC _) (by omega)
 ·simpa [scenario_joined_int] using this
 ·simp only [scenario_joined_int.l1,lt_len hi,if_true,idx_nat hi,yb,hf _ (yt hi),add64_1 (i:=i) (by omega)]
  rw [app_some (by simp;omega),yb,← hr,yI hi,ui]
  rfl
 ·simp only [scenario_joined_int.l1,ge_len,yk,if_false,List.take_length]
  rw [Join_some (by simp;omega) (by omega)];rfl
theorem sList_eq {n:Nat} {l:List Int} {sep:List UInt8} (hl:l.length≤1000) (hw:wide64 l) (hs:sep.length≤10) (hn:1000000≤n):scenario_list n l sep=some (listP sep l):=by
 unfold scenario_list
 rw [joined_eq (g:=itoaL) (λx hx=>Itoa_some (by have:=hw x hx;omega) (hw x hx).2) hl (λx hx=>by have:=hw x hx;have:=itoaL_len (x:=x) (by omega) this.2;omega) hs hn]
 rfl
def namedP (w:List UInt8) (l:List Int):List UInt8:=w++(40::listP [44,32] l++[41])
theorem sNamed_eq {n:Nat} {w:List UInt8} {l:List Int} (hwl:w.length≤1000) (hl:l.length≤1000) (hw:wide64 l) (hn:1000000≤n):scenario_named n w l=some (namedP w l):=by
 have h1:=listP_len (sep:=[44,32]) hw
 have h2:(21+([44,32]:List UInt8).length)*l.length≤23*1000:=ul (by simp) hl
 unfold scenario_named
 rw [cat_some (by simp;omega),yb,sList_eq hl hw (by simp) hn,yb,cat_some (by simp;omega),yb,cat_some (by simp;omega),yb]
 simp [namedP]
theorem namedP_len {w:List UInt8} {l:List Int} (hwl:w.length≤1000) (hl:l.length≤1000) (hw:wide64 l):(namedP w l).length≤25000:=by
 have h1:=listP_len (sep:=[44,32]) hw
 have h2:(21+([44,32]:List UInt8).length)*l.length≤23*1000:=ul (by simp) hl
 simp [namedP];omega
theorem loopF_s {σ R:Type} {body:(σ→Option R)→σ→Option R} {n:Nat} {s:σ}:loopF body (n+1) s=body (loopF body n) s:=rfl
theorem rem_nat {r z:Nat} (hz:0<z):rem64 (r:Int) (z:Int)=some ((r % z:Nat):Int):=by
 unfold rem64
 rw [if_neg (by omega),Int.tmod_eq_emod_of_nonneg (by omega)];rfl
theorem quo_nat {r z:Nat} (hz:0<z) (hr:r≤1000000000):quo64 (r:Int) (z:Int)=some ((r / z:Nat):Int):=by
 have h1:r / z≤r:=Nat.div_le_self _ _
 unfold quo64
 rw [if_neg (by omega),Int.tdiv_eq_ediv_of_nonneg (by omega),← Int.natCast_ediv]
 generalize r / z=y at h1
 rw [w64_id (by omega) (by omega)]
theorem mul_nat {a b:Nat} (h:a*b≤1000000000):mul64 (a:Int) (b:Int)=((a*b:Nat):Int):=by
 unfold mul64
 rw [w64_id (by rw [← uu];omega) (by rw [← uu];omega)];simp
def tupN (zs:List Nat) (r:Nat):List Int:=match zs with
 | []=>[]
 | [a]=>[((r % a:Nat):Int)]
 | [a,b]=>[((r / b % a:Nat):Int),((r % b:Nat):Int)]
 | [a,b,c]=>[((r / c / b % a:Nat):Int),((r / c % b:Nat):Int),((r % c:Nat):Int)]
 | _=>[]
def prodN:List Nat→Nat
 | []=>1
 | a::l=>a*prodN l
structure Cols (sizes:List Int) (cols:List Int) (zs:List Nat):Prop where
 len:zs.length=cols.length
 le:cols.length≤3
 at_:∀ (i:Nat) (h:i<cols.length) (h2:i<zs.length),idx sizes cols[i]=some ((zs[i]:Nat):Int)
 bd:∀ z∈zs,1≤z∧z≤6
theorem prod_le:∀ {zs:List Nat},zs.length≤3→(∀ z∈zs,1≤z∧z≤6)→1≤prodN zs∧prodN zs≤216
 | [],_,_=>by simp [prodN]
 | [a],_,h=>by have:=h a (by simp);simp [prodN];omega
 | [a,b],_,h=>by
  have h1:=h a (by simp)
  have h2:=h b (by simp)
  have:a*b≤6*6:=ul h1.2 h2.2
  have:1*1≤a*b:=ul h1.1 h2.1
  simp [prodN];omega
 | [a,b,c],_,h=>by
  have h1:=h a (by simp)
  have h2:=h b (by simp)
  have h3:=h c (by simp)
  have:b*c≤6*6:=ul h2.2 h3.2
  have:a*(b*c)≤6*36:=ul h1.2 (by omega)
  have:1*1≤b*c:=ul h2.1 h3.1
  have:1*1≤a*(b*c):=ul h1.1 (by omega)
  simp [prodN];omega
 | _::_::_::_::_,h,_=>by simp at h
theorem len2 {l:List Nat} (h:l.length=2):∃ a b,l=[a,b]:=by
 match l,h with
 | [a,b],_=>exact ⟨a,b,rfl⟩
theorem len3 {l:List Nat} (h:l.length=3):∃ a b c,l=[a,b,c]:=by
 match l,h with
 | [a,b,c],_=>exact ⟨a,b,c,rfl⟩
section
variable {n:Nat} {m:Model} {c:Int} {t:Table} {zs:List Nat} (hC:Cols m.sorts t.columns zs) (hn:1000000≤n)
include hC hn
theorem l3_step {f i r:Nat} {b:List Int} (hi:i<t.columns.length) (hz:i<zs.length) (hb:b.length=t.columns.length) (hr:r≤1000000) :
  loopF (scenario_cell.l3 n m t) (f+1) (b,(r:Int),(i:Int))=loopF (scenario_cell.l3 n m t) f (b.set i ((r % zs[i]:Nat):Int),((r / zs[i]:Nat):Int),(i:Int) - 1):=by
 have h1:=hC.bd _ (yt hz)
 have h2:=hC.le
 have hs:sub64 (i:Int) 1=(i:Int) - 1:=by unfold sub64;exact w64_id (by omega) (by omega)
 have hbi:i<b.length:=by omega
 rw [loopF_s]
 simp only [scenario_cell.l3]
 rw [if_pos (by simp),idx_nat hi,yb,hC.at_ i hi hz,yb,rem_nat (by omega),yb,quo_nat (by omega) (by omega),yb,idx_nat hbi,yb,sto_at hbi,yb,hs]
omit hC hn in
theorem l3_end {f r:Nat} {b:List Int}:loopF (scenario_cell.l3 n m t) (f+1) (b,(r:Int),-1)=scenario_named n t.name b:=by
 rw [loopF_s]
 simp only [scenario_cell.l3]
 rw [if_neg (by simp)]
 cases scenario_named n t.name b <;> rfl
theorem sCell_l3 {r:Nat} (hr:r≤1000000):loopF (scenario_cell.l3 n m t) n (List.replicate t.columns.length 0,(r:Int),(t.columns.length:Int) - 1)=scenario_named n t.name (tupN zs r):=by
 obtain ⟨N,hN⟩:∃ N,n=N+1+1+1+1:=⟨n - 4,by omega⟩
 have hlen:=hC.len
 have hle:=hC.le
 have hd:∀ a:Nat,r / a≤1000000:=λa=>uc (Nat.div_le_self _ _) hr
 have e:∀ st,loopF (scenario_cell.l3 n m t) n st=loopF (scenario_cell.l3 n m t) (N+1+1+1+1) st:=λst=>by rw [← hN]
 rw [e]
 match hL:t.columns.length,hle with
 | 0,_=>
  obtain rfl:zs=[]:=yQ (by omega)
  exact l3_end
 | 1,_=>
  obtain ⟨a,rfl⟩:∃ a,zs=[a]:=List.length_eq_one_iff.1 (by omega)
  have s1:=l3_step hC hn (f:=N+1+1+1) (i:=0) (r:=r) (b:=List.replicate 1 0) (by omega) (by simp) (by simp [hL]) hr
  exact s1.trans l3_end
 | 2,_=>
  obtain ⟨a,b,rfl⟩:∃ a b,zs=[a,b]:=len2 (by omega)
  have s1:=l3_step hC hn (f:=N+1+1+1) (i:=1) (r:=r) (b:=List.replicate 2 0) (by omega) (by simp) (by simp [hL]) hr
  have s2:=l3_step hC hn (f:=N+1+1) (i:=0) (r:=r / b) (b:=[0,((r % b:Nat):Int)]) (by omega) (by simp) (by simp [hL]) (hd b)
  exact (s1.trans s2).trans l3_end
 | 3,_=>
  obtain ⟨a,b,c,rfl⟩:∃ a b c,zs=[a,b,c]:=len3 (by omega)
  have s1:=l3_step hC hn (f:=N+1+1+1) (i:=2) (r:=r) (b:=List.replicate 3 0) (by omega) (by simp) (by simp [hL]) hr
  have s2:=l3_step hC hn (f:=N+1+1) (i:=1) (r:=r / c) (b:=[0,0,((r % c:Nat):Int)]) (by omega) (by simp) (by simp [hL]) (hd c)
  have s3:=l3_step hC hn (f:=N+1) (i:=0) (r:=r / c / b) (b:=[0,((r / c % b:Nat):Int),((r % c:Nat):Int)]) (by omega) (by simp) (by simp [hL]) (uc (Nat.div_le_self _ _) (hd c))
  exact ((s1.trans s2).trans s3).trans l3_end
theorem l2_step {f i s:Nat} {k:Unit→Option (List UInt8)} (hi:i<t.columns.length) (hz:i<zs.length) (hs:s*zs[i]≤1000000) :
  loopF (scenario_cell.l2 n m c k t) (f+1) ((s:Int),(i:Int))=loopF (scenario_cell.l2 n m c k t) f (((s*zs[i]:Nat):Int),((i+1:Nat):Int)):=by
 have h2:=hC.le
 rw [loopF_s]
 simp only [scenario_cell.l2]
 rw [if_pos (by simp;omega),idx_nat hi,yb,hC.at_ i hi hz,yb,mul_nat (by omega),add64_1 (by omega)]
theorem l2_end {f s:Nat} {k:Unit→Option (List UInt8)} (hf : -1000000≤t.first∧t.first≤1000000) (hc : -1000000≤c∧c≤1000000) (hs:s≤216) :
  loopF (scenario_cell.l2 n m c k t) (f+1) ((s:Int),(t.columns.length:Int))=if t.first≤c∧c<t.first+s then scenario_named n t.name (tupN zs (c - t.first).toNat) else k ():=by
 have h2:=hC.le
 have ha:add64 t.first (s:Int)=t.first+s:=by unfold add64;exact w64_id (by omega) (by omega)
 have hb:sub64 c t.first=c - t.first:=by unfold sub64;exact w64_id (by omega) (by omega)
 have hd:sub64 (t.columns.length:Int) 1=(t.columns.length:Int) - 1:=by unfold sub64;exact w64_id (by omega) (by omega)
 rw [loopF_s]
 simp only [scenario_cell.l2]
 rw [if_neg (by simp),ha]
 by_cases h:t.first≤c∧c<t.first+s
 ·obtain ⟨r,hr⟩:=yT (show 0≤c - t.first by omega)
  rw [if_neg (by simp;omega),if_pos h,mkl_0 (by omega),yb,uf,hb,hr,hd,sCell_l3 hC hn (by omega),yz]
 ·rw [if_pos (by simp;omega),if_neg h]
theorem sCell_l2 {k:Unit→Option (List UInt8)} (hf : -1000000≤t.first∧t.first≤1000000) (hc : -1000000≤c∧c≤1000000) :
  loopF (scenario_cell.l2 n m c k t) n (1,0)=if t.first≤c∧c<t.first+(prodN zs:Nat) then scenario_named n t.name (tupN zs (c - t.first).toNat) else k ():=by
 obtain ⟨N,hN⟩:∃ N,n=N+1+1+1+1:=⟨n - 4,by omega⟩
 have hlen:=hC.len
 have hle:=hC.le
 have hp:=prod_le (zs:=zs) (by omega) hC.bd
 have e:∀ st,loopF (scenario_cell.l2 n m c k t) n st=loopF (scenario_cell.l2 n m c k t) (N+1+1+1+1) st:=λst=>by rw [← hN]
 rw [e]
 match hL:t.columns.length,hle with
 | 0,_=>
  obtain rfl:zs=[]:=yQ (by omega)
  have:=l2_end hC hn (f:=N+1+1+1) (s:=1) (k:=k) hf hc (by omega)
  rw [hL] at this
  exact this
 | 1,_=>
  obtain ⟨a,rfl⟩:∃ a,zs=[a]:=List.length_eq_one_iff.1 (by omega)
  have z1:=hC.bd a (by simp)
  have s1:=l2_step (c:=c) hC hn (f:=N+1+1+1) (i:=0) (s:=1) (k:=k) (by omega) (by simp) (by simp;omega)
  have:=l2_end hC hn (f:=N+1+1) (s:=1*a) (k:=k) hf hc (by omega)
  rw [hL] at this
  rw [show prodN [a]=1*a by simp [prodN]]
  exact s1.trans this
 | 2,_=>
  obtain ⟨a,b,rfl⟩:∃ a b,zs=[a,b]:=len2 (by omega)
  have z1:=hC.bd a (by simp)
  have z2:=hC.bd b (by simp)
  have z3:a*b≤6*6:=ul z1.2 z2.2
  have s1:=l2_step (c:=c) hC hn (f:=N+1+1+1) (i:=0) (s:=1) (k:=k) (by omega) (by simp) (by simp;omega)
  have s2:=l2_step (c:=c) hC hn (f:=N+1+1) (i:=1) (s:=1*a) (k:=k) (by omega) (by simp) (by simp;omega)
  have:=l2_end hC hn (f:=N+1) (s:=1*a*b) (k:=k) hf hc (by simp;omega)
  rw [hL] at this
  rw [show prodN [a,b]=1*a*b by simp [prodN]]
  exact (s1.trans s2).trans this
 | 3,_=>
  obtain ⟨a,b,d,rfl⟩:∃ a b c,zs=[a,b,c]:=len3 (by omega)
  have z1:=hC.bd a (by simp)
  have z2:=hC.bd b (by simp)
  have z4:=hC.bd d (by simp)
  have z3:a*b≤6*6:=ul z1.2 z2.2
  have z5:a*b*d≤36*6:=ul (by omega) z4.2
  have s1:=l2_step (c:=c) hC hn (f:=N+1+1+1) (i:=0) (s:=1) (k:=k) (by omega) (by simp) (by simp;omega)
  have s2:=l2_step (c:=c) hC hn (f:=N+1+1) (i:=1) (s:=1*a) (k:=k) (by omega) (by simp) (by simp;omega)
  have s3:=l2_step (c:=c) hC hn (f:=N+1) (i:=2) (s:=1*a*b) (k:=k) (by omega) (by simp) (by simp;omega)
  have:=l2_end hC hn (f:=N) (s:=1*a*b*d) (k:=k) hf hc (by simp;omega)
  rw [hL] at this
  rw [show prodN [a,b,d]=1*a*b*d by simp [prodN,Nat.mul_assoc]]
  exact ((s1.trans s2).trans s3).trans this
end
section
variable {n:Nat} {m:Model} {c:Int} {t:Table} {zs:List Nat} (hC:Cols m.sorts t.columns zs) (hn:1000000≤n)
include hC
include hn
theorem tup_wide {r:Nat}:wide64 (tupN zs r)∧(tupN zs r).length≤3:=by
 have key:∀ z∈zs,∀ y:Nat,-9223372036854775807≤((y % z:Nat):Int)∧((y % z:Nat):Int)≤9223372036854775807:=λz hz y=>by
  have h1:=hC.bd z hz
  have:=Nat.mod_lt y (show 0<z by omega)
  omega
 have hlen:=hC.len
 have hle:=hC.le
 match zs,key,hlen with
 | [],_,_=>exact ⟨by simp [tupN,wide64],by simp [tupN]⟩
 | [a],key,_=>exact ⟨λx hx=>by simp [tupN] at hx;subst hx;exact key a (by simp) _,by simp [tupN]⟩
 | [a,b],key,_=>exact ⟨λx hx=>by
   simp only [tupN,yD,List.not_mem_nil,or_false] at hx
   rcases hx with rfl | rfl
   ·exact key a (by simp) _
   ·exact key b (by simp) _,by simp [tupN]⟩
 | [a,b,d],key,_=>exact ⟨λx hx=>by
   simp only [tupN,yD,List.not_mem_nil,or_false] at hx
   rcases hx with rfl | rfl | rfl
   ·exact key a (by simp) _
   ·exact key b (by simp) _
   ·exact key d (by simp) _,by simp [tupN]⟩
 | _::_::_::_::_,_,h=>simp at h;omega
end
def zsOf (m:Model) (t:Table):List Nat:=t.columns.map (nK m.sorts)
theorem cols_of {m:Model} (hL:layoutP m.sorts m.tables=true) {t:Table} (ht:t∈m.tables):Cols m.sorts t.columns (zsOf m t):=by
 obtain ⟨l1,l2,l3,l4⟩:=layoutP_tab hL
 obtain ⟨-,-,c1,c2,-⟩:=l4 t ht
 refine ⟨by simp [zsOf],c1,λi h h2=>?_,λz hz=>?_⟩
 ·have hc:=yr.1 c2 _ (yt h)
  rw [idx_col hc,← (nK_ok l3 hc).1]
  simp [zsOf]
 ·obtain ⟨x,hx,rfl⟩:=y0.1 hz
  exact (nK_ok l3 (yr.1 c2 x hx)).2
theorem zs_ok {m:Model} (hL:layoutP m.sorts m.tables=true) {t:Table} (ht:t∈m.tables):(zsOf m t).length≤3∧(∀ z∈zsOf m t,1≤z∧z≤6):=by
 have hC:=cols_of hL ht
 exact ⟨by have:=hC.len;have:=hC.le;omega,hC.bd⟩
theorem prod_wN (sizes:List Int):∀ cols:List Int,prodN (cols.map (nK sizes))=wN sizes cols
 | []=>rfl
 | c::l=>by rw [yL,prodN,wN,prod_wN sizes l]
theorem wN_rev (sizes:List Int):∀ cols:List Int,wN sizes cols.reverse=wN sizes cols
 | []=>rfl
 | c::l=>by rw [List.reverse_cons,wN_append,wN_rev sizes l,wN,Nat.mul_comm];simp [wN]
theorem width_zs {m:Model} (hL:layoutP m.sorts m.tables=true) {t:Table} (ht:t∈m.tables):widthP m.sorts t.columns 1=((prodN (zsOf m t):Nat):Int)∧1≤prodN (zsOf m t)∧prodN (zsOf m t)≤216:=by
 obtain ⟨l1,l2,l3,l4⟩:=layoutP_tab hL
 obtain ⟨-,-,c1,c2,-⟩:=l4 t ht
 have h:=width_3 l3 c2 c1
 have e:prodN (zsOf m t)=wN m.sorts t.columns.reverse:=by rw [wN_rev];exact prod_wN m.sorts t.columns
 rw [e];exact h
def cellT (m:Model) (c:Int):List Table→List UInt8
 | []=>[]
 | t::l=>if strictP t.kind=true∧t.first≤c∧c<t.first+(prodN (zsOf m t):Nat) then namedP t.name (tupN (zsOf m t) (c - t.first).toNat) else cellT m c l
def cellW (m:Model) (c:Int):List UInt8:=cellT m c m.tables
theorem tab_first {m:Model} (hL:layoutP m.sorts m.tables=true) {t:Table} (ht:t∈m.tables):0≤t.first∧t.first≤1000000:=by
 obtain ⟨b1,b2,b3⟩:=lay_big hL
 have:=lay_first b1 b2 (by omega) (by omega) (by omega) (by omega) t ht
 exact ⟨this.1,this.2.1⟩
theorem tab_name {m:Model} (hL:layoutP m.sorts m.tables=true) {t:Table} (ht:t∈m.tables):t.name.length≤16∧wordP t.name=true:=by
 obtain ⟨-,-,-,l4⟩:=layoutP_tab hL
 have:=(l4 t ht).1
 simp only [nameP,yc,yd] at this
 exact ⟨this.1,this.2.1⟩
theorem tab_kind {m:Model} (hL:layoutP m.sorts m.tables=true) {t:Table} (ht:t∈m.tables):decide (1<t.kind) = !strictP t.kind:=by
 obtain ⟨-,-,-,l4⟩:=layoutP_tab hL
 have:=(l4 t ht).2.1
 unfold strictP
 rw [Bool.eq_iff_iff]
 simp only [yd,yy,ud,y8]
 omega
section
variable {n:Nat} {m:Model} {c:Int} (hL:layoutP m.sorts m.tables=true) (hc : -1000000≤c∧c≤1000000) (hn:1000000≤n)
include hL hc hn
theorem sCell_eq:scenario_cell n m c=some (cellW m c):=by
 have htl:m.tables.length≤12:=(layoutP_tab hL).2.1
 have:=loopF_g (body:=scenario_cell.l1 n m c) (len:=m.tables.length) (st:=λk=>(k:Int)) (g:=λk=>some (cellT m c (m.tables.drop k))) (λrec i hi hr=>?_) (λrec=>?_) n 0 (yC _) (by omega)
 ·simpa [scenario_cell,cellW] using this
 ·have ht:=yt hi
  have hC:=cols_of hL ht
  have hf:=tab_first hL ht
  have hw:=tup_wide hC hn (r:=(c - m.tables[i].first).toNat)
  rw [drop_cons hi]
  simp only [cellT,scenario_cell.l1,lt_len hi,if_true,idx_nat hi,yb,jn,add64_1 (i:=i) (by omega),tab_kind hL ht]
  by_cases hk:strictP m.tables[i].kind=true
  ·rw [if_neg (by simp [hk]),sCell_l2 hC hn (by omega) hc]
   by_cases h:m.tables[i].first≤c∧c<m.tables[i].first+(prodN (zsOf m m.tables[i]):Nat)
   ·rw [if_pos h,if_pos ⟨hk,h⟩,sNamed_eq (by have:=(tab_name hL ht).1;omega) (by omega) hw.1 hn]
   ·rw [if_neg h,if_neg (by rintro ⟨-,h2⟩;exact h h2)];exact hr
  ·rw [if_pos (by simp [hk]),if_neg (by rintro ⟨h2,-⟩;exact hk h2)];exact hr
 ·simp [scenario_cell.l1,cellT]
end
theorem cell_at {m:Model}:∀ {l:List Table} {seen:List (List UInt8)} {a b:Int} (_:∀ t∈l,t∈m.tables) (_:layoutP m.sorts m.tables=true) (_:layP m.sorts seen a b l=true) (_:0≤a) (_:0≤b) (_:a+216*(l.length:Int)≤1000000) (_:b+216*(l.length:Int)≤1000000) {c:Int} (_:a≤c) (_:c<a+((rangesP m.sorts true l).length:Int)),
  ∃ t∈l,∃ r:Nat,r<prodN (zsOf m t)∧c=t.first+r∧cellT m c l=namedP t.name (tupN (zsOf m t) r)
 | [],seen,a,b,_,_,_,_,_,_,_,c,h1,h2=>by simp [rangesP] at h2;omega
 | x::l,seen,a,b,hm,hL,h,ha,hb,q1,q2,c,h1,h2=>by
  have hx:=hm x (by simp)
  have hw:=width_zs hL hx
  simp only [yR] at q1 q2
  have hcast:((l.length+1:Nat):Int)=(l.length:Int)+1:=by omega
  rw [hcast] at q1 q2
  simp only [layP,yc] at h
  have h3:=h.2
  rw [rangesP] at h2
  by_cases hk:strictP x.kind=true
  ·rw [if_pos hk] at h3
   simp only [yc,beq_iff_eq] at h3
   rw [add64_sm (by omega) (by omega)] at h3
   rw [if_pos (by simp [hk]),yS,uf] at h2
   by_cases hc:c<x.first+(prodN (zsOf m x):Nat)
   ·refine ⟨x,by simp,(c - x.first).toNat,by omega,by omega,?_⟩
    rw [cellT,if_pos ⟨hk,by omega,hc⟩]
   ·obtain ⟨t,ht,r,hr,e1,e2⟩:=cell_at (λt ht=>hm t (by simp [ht])) hL h3.2 (by omega) hb (by omega) (by omega) (c:=c) (by omega) (by omega)
    exact ⟨t,by simp [ht],r,hr,e1,by rw [cellT,if_neg (by rintro ⟨-,-,h5⟩;exact hc h5)];exact e2⟩
  ·rw [if_neg hk] at h3
   simp only [yc,beq_iff_eq] at h3
   rw [add64_sm (by omega) (by omega)] at h3
   rw [if_neg (by simpa using hk)] at h2
   obtain ⟨t,ht,r,hr,e1,e2⟩:=cell_at (λt ht=>hm t (by simp [ht])) hL h3.2 ha (by omega) (by omega) (by omega) (c:=c) (by omega) (by omega)
   exact ⟨t,by simp [ht],r,hr,e1,by rw [cellT,if_neg (by rintro ⟨h5,-⟩;exact hk h5)];exact e2⟩
theorem cellW_at {m:Model} (hL:layoutP m.sorts m.tables=true) {c:Int} (h0:0≤c) (h1:c<((boxM m).length:Int)) :
  ∃ t∈m.tables,∃ r:Nat,r<prodN (zsOf m t)∧c=t.first+r∧cellW m c=namedP t.name (tupN (zsOf m t) r):=by
 obtain ⟨b1,b2,b3⟩:=lay_big hL
 exact cell_at (λt ht=>ht) hL b2 (by omega) (by omega) (by omega) (by omega) h0 (by unfold boxM at h1;omega)
theorem dig_nat {r:Nat} (h:r<10):(UInt8.ofNat (48+r)).toNat=48+r:=by
 rw [UInt8.toNat_ofNat'];exact Nat.mod_eq_of_lt (by omega)
theorem decD_mem:∀ (k u:Nat),u≤k→∀ c∈Lib.decDigits u,48≤c.toNat∧c.toNat≤57
 | k,u,hk,c,hc=>by
  by_cases h:u<10
  ·rw [decD_small h] at hc
   simp only [yJ] at hc
   subst hc
   rw [dig_nat h];omega
  ·rw [decD_big h] at hc
   rcases yH.1 hc with hc | hc
   ·match k with
    | 0=>omega
    | k+1=>exact decD_mem k (u / 10) (by omega) c hc
   ·simp only [yJ] at hc
    subst hc
    rw [dig_nat (Nat.mod_lt _ (by decide))];omega
theorem decD_ne (u:Nat):Lib.decDigits u≠[]:=by
 by_cases h:u<10
 ·rw [decD_small h];simp
 ·rw [decD_big h];simp
theorem parse_app:∀ {l r:List UInt8} {acc v:Nat},Lib.parseUint10 acc l = .ok v→Lib.parseUint10 acc (l++r)=Lib.parseUint10 v r
 | [],r,acc,v,h=>by
  simp only [Lib.parseUint10] at h
  injection h with h
  subst h;rfl
 | c::l,r,acc,v,h=>by
  simp only [Lib.parseUint10] at h
  rw [yW]
  by_cases h1:48≤c.toNat∧c.toNat≤57
  ·rw [if_pos h1] at h
   by_cases h2:1844674407370955162≤acc
   ·rw [if_pos h2] at h;cases h
   ·rw [if_neg h2] at h
    by_cases h3:18446744073709551616≤acc*10+(c.toNat - 48)
    ·rw [if_pos h3] at h;cases h
    ·rw [if_neg h3] at h
     simp only [Lib.parseUint10]
     rw [if_pos h1,if_neg h2,if_neg h3]
     exact parse_app h
  ·rw [if_neg h1] at h;cases h
theorem decD_parse:∀ (k u:Nat),u≤k→u≤9223372036854775807→Lib.parseUint10 0 (Lib.decDigits u) = .ok u
 | k,u,hk,hu=>by
  by_cases h:u<10
  ·rw [decD_small h]
   simp only [Lib.parseUint10]
   rw [dig_nat h,if_pos (by omega),if_neg (by omega),if_neg (by omega)]
   congr 1;omega
  ·match k with
   | 0=>omega
   | k+1=>
    have ih:=decD_parse k (u / 10) (by omega) (by omega)
    have hm:=Nat.mod_lt u (show 0<10 by decide)
    rw [decD_big h,parse_app ih]
    simp only [Lib.parseUint10]
    rw [dig_nat hm,if_pos (by omega),if_neg (by omega),if_neg (by omega)]
    congr 1;omega
theorem decD_mag {u:Nat} (hu:u≤9223372036854775807):Lib.parseMag (Lib.decDigits u) = .ok u:=by
 unfold Lib.parseMag
 rw [if_neg (decD_ne u)]
 exact decD_parse u u (ym _) hu
theorem itoaL_neg {x:Int} (h0 : -9223372036854775808≤x) (h:x<0):itoaL x=45::Lib.decDigits x.natAbs:=by
 rw [itoaL_eq h0 (by omega),Lib.itoa,if_pos h]
theorem itoaL_pos {x:Int} (h1:x≤9223372036854775807) (h:0≤x):itoaL x=Lib.decDigits x.toNat:=by
 rw [itoaL_eq (by omega) h1,Lib.itoa,if_neg (by omega)]
theorem itoaL_ne (x:Int) (h0 : -9223372036854775808≤x) (h1:x≤9223372036854775807):itoaL x≠[]:=by
 by_cases h:x<0
 ·rw [itoaL_neg h0 h];simp
 ·rw [itoaL_pos h1 (by omega)];exact decD_ne _
theorem itoaL_mem {x:Int} (h0 : -9223372036854775808≤x) (h1:x≤9223372036854775807):∀ c∈itoaL x,c=45∨(48≤c.toNat∧c.toNat≤57):=by
 intro c hc
 by_cases h:x<0
 ·rw [itoaL_neg h0 h] at hc
  rcases yD.1 hc with rfl | hc
  ·exact Or.inl rfl
  ·exact Or.inr (decD_mem _ _ (ym _) c hc)
 ·rw [itoaL_pos h1 (by omega)] at hc
  exact Or.inr (decD_mem _ _ (ym _) c hc)
theorem itoaL_not {x:Int} (h0 : -9223372036854775808≤x) (h1:x≤9223372036854775807) {c:UInt8} (hc:c.toNat<45):c∉itoaL x:=λh=>by
 rcases itoaL_mem h0 h1 c h with rfl | h
 ·simp at hc
 ·omega
theorem atoi_itoaL {x:Int} (h0 : -9223372036854775807≤x) (h1:x≤9223372036854775807):Lib.atoiAll (itoaL x) = .ok x:=by
 by_cases h:x<0
 ·rw [itoaL_neg (by omega) h,Lib.atoiAll_minus,decD_mag (by omega)]
  simp only [Lib.signed]
  rw [if_neg (by omega)]
  congr 1;omega
 ·rw [itoaL_pos h1 (by omega)]
  obtain ⟨c,l,hl⟩:=List.exists_cons_of_ne_nil (decD_ne x.toNat)
  have hc:=decD_mem _ _ (ym x.toNat) c (by rw [hl];simp)
  rw [hl,Lib.atoiAll_plain c l (by omega) (by omega),← hl,decD_mag (by omega)]
  simp only [Lib.signless]
  rw [if_neg (by omega)]
  congr 1;omega
theorem itoaL_inj {x y:Int} (h0 : -9223372036854775807≤x) (h1:x≤9223372036854775807) (g0 : -9223372036854775807≤y) (g1:y≤9223372036854775807) (h:itoaL x=itoaL y):x=y:=by
 have e1:=atoi_itoaL h0 h1
 rw [h,atoi_itoaL g0 g1] at e1
 injection e1 with e1
 exact e1.symm
theorem cut_eq {c:UInt8}:∀ {a b r s:List UInt8},c∉a→c∉b→(r=[]∨∃ q,r=c::q)→(s=[]∨∃ q,s=c::q)→a++r=b++s→a=b∧r=s
 | [],[],r,s,_,_,_,_,h=>⟨rfl,h⟩
 | [],y::b,r,s,_,hb,hr,_,h=>by
  rcases hr with rfl | ⟨q,rfl⟩
  ·simp at h
  ·simp only [y6,yW,List.cons.injEq] at h
   exact absurd (by simp [h.1]) hb
 | x::a,[],r,s,ha,_,_,hs,h=>by
  rcases hs with rfl | ⟨q,rfl⟩
  ·simp at h
  ·simp only [y6,yW,List.cons.injEq] at h
   exact absurd (by simp [h.1]) ha
 | x::a,y::b,r,s,ha,hb,hr,hs,h=>by
  simp only [yW,List.cons.injEq] at h
  obtain ⟨e1,e2⟩:=cut_eq (λh=>ha (by simp [h])) (λh=>hb (by simp [h])) hr hs h.2
  exact ⟨by rw [h.1,e1],e2⟩
theorem tail_form {c:UInt8} {sep:List UInt8}:∀ l:List (List UInt8),Lib.joinTail (c::sep) l=[]∨∃ q,Lib.joinTail (c::sep) l=c::q
 | []=>Or.inl rfl
 | x::l=>Or.inr ⟨_,rfl⟩
theorem tail_inj {c:UInt8} {sep:List UInt8} (hc:c.toNat<45):∀ {l k:List Int},wide64 l→wide64 k→Lib.joinTail (c::sep) (l.map itoaL)=Lib.joinTail (c::sep) (k.map itoaL)→l=k
 | [],[],_,_,_=>rfl
 | [],y::k,_,_,h=>by simp [Lib.joinTail] at h
 | x::l,[],_,_,h=>by simp [Lib.joinTail] at h
 | x::l,y::k,hl,hk,h=>by
  have hx:=hl x (by simp)
  have hy:=hk y (by simp)
  have h2:(c::sep)++(itoaL x++Lib.joinTail (c::sep) (l.map itoaL))=(c::sep)++(itoaL y++Lib.joinTail (c::sep) (k.map itoaL)):=by
   simpa [Lib.joinTail] using h
  obtain ⟨e1,e2⟩:=cut_eq (itoaL_not (by omega) hx.2 hc) (itoaL_not (by omega) hy.2 hc) (tail_form _) (tail_form _) (List.append_cancel_left h2)
  rw [itoaL_inj hx.1 hx.2 hy.1 hy.2 e1,tail_inj hc (λz hz=>hl z (by simp [hz])) (λz hz=>hk z (by simp [hz])) e2]
theorem listP_cons (sep:List UInt8) (x:Int) (l:List Int):listP sep (x::l)=itoaL x++Lib.joinTail sep (l.map itoaL):=by
 unfold listP
 rw [yL,Lib.join_cons]
theorem listP_inj {c:UInt8} {sep:List UInt8} (hc:c.toNat<45):∀ {l k:List Int},wide64 l→wide64 k→listP (c::sep) l=listP (c::sep) k→l=k
 | [],[],_,_,_=>rfl
 | [],y::k,_,hk,h=>by
  have hy:=hk y (by simp)
  rw [listP_cons] at h
  have:=itoaL_ne y (by omega) hy.2
  simp [listP,Lib.join_nil] at h
  exact absurd h.1 this
 | x::l,[],hl,_,h=>by
  have hx:=hl x (by simp)
  rw [listP_cons] at h
  have:=itoaL_ne x (by omega) hx.2
  simp [listP,Lib.join_nil] at h
  exact absurd h.1 this
 | x::l,y::k,hl,hk,h=>by
  have hx:=hl x (by simp)
  have hy:=hk y (by simp)
  rw [listP_cons,listP_cons] at h
  obtain ⟨e1,e2⟩:=cut_eq (itoaL_not (by omega) hx.2 hc) (itoaL_not (by omega) hy.2 hc) (tail_form _) (tail_form _) h
  rw [itoaL_inj hx.1 hx.2 hy.1 hy.2 e1,tail_inj hc (λz hz=>hl z (by simp [hz])) (λz hz=>hk z (by simp [hz])) e2]
theorem runP_all {p:Int→Bool}:∀ {l:List UInt8},runP p l=l.length→∀ c∈l,p (c.toNat:Nat)=true
 | [],_,c,hc=>by simp at hc
 | x::l,h,c,hc=>by
  rw [runP] at h
  split at h
  ·rename_i hx
   rcases yD.1 hc with rfl | hc
   ·exact hx
   ·exact runP_all (by simp at h;omega) c hc
  ·simp at h
theorem word_mem {w:List UInt8} (h:wordP w=true):∀ c∈w,partP (c.toNat:Nat)=true:=by
 simp only [wordP,yc,yd] at h
 exact runP_all h.2
theorem word_not {w:List UInt8} (h:wordP w=true):(40:UInt8)∉w:=λhc=>by
 have:=word_mem h _ hc
 revert this;decide
theorem namedP_inj {v w:List UInt8} {k l:List Int} (hv:wordP v=true) (hw:wordP w=true) (hk:wide64 k) (hl:wide64 l) (h:namedP v k=namedP w l):v=w∧k=l:=by
 unfold namedP at h
 obtain ⟨e1,e2⟩:=cut_eq (word_not hv) (word_not hw) (Or.inr ⟨_,rfl⟩) (Or.inr ⟨_,rfl⟩) h
 refine ⟨e1,?_⟩
 simp only [yW,List.cons.injEq,true_and] at e2
 exact listP_inj (by decide) hk hl (List.append_cancel_right e2)
theorem namedP_ne {w:List UInt8} {l:List Int}:namedP w l≠[]:=by simp [namedP]
theorem lay_names {sizes:List Int}:∀ {l:List Table} {seen:List (List UInt8)} {a b:Int},layP sizes seen a b l=true→(∀ t∈l,t.name∉seen)∧∀ t∈l,∀ u∈l,t.name=u.name→t=u
 | [],_,_,_,_=>⟨by simp,by simp⟩
 | x::l,seen,a,b,h=>by
  simp only [layP,yc,yy,yE] at h
  obtain ⟨⟨-,h1⟩,h2⟩:=h
  have key:(∀ t∈l,t.name∉seen++[x.name])∧∀ t∈l,∀ u∈l,t.name=u.name→t=u:=by
   split at h2
   ·simp only [yc] at h2;exact lay_names h2.2
   ·simp only [yc] at h2;exact lay_names h2.2
  obtain ⟨k1,k2⟩:=key
  refine ⟨λt ht=>?_,λt ht u hu e=>?_⟩
  ·rcases yD.1 ht with rfl | ht
   ·exact h1
   ·exact λh3=>k1 t ht (by simp [h3])
  ·rcases yD.1 ht with rfl | ht2
   ·rcases yD.1 hu with rfl | hu
    ·rfl
    ·exact absurd (by simp [e]) (k1 u hu)
   ·rcases yD.1 hu with rfl | hu3
    ·exact absurd (by simp [e]) (k1 t ht2)
    ·exact k2 t ht2 u hu3 e
theorem dm_eq {a b d:Nat} (h1:a / d=b / d) (h2:a % d=b % d):a=b:=by
 rw [← Nat.div_add_mod a d,← Nat.div_add_mod b d,h1,h2]
theorem tupN_inj {zs:List Nat} (h3:zs.length≤3) (hz:∀ z∈zs,1≤z∧z≤6) {r s:Nat} (hr:r<prodN zs) (hs:s<prodN zs) (h:tupN zs r=tupN zs s):r=s:=by
 match zs,h3 with
 | [],_=>simp [prodN] at hr hs;omega
 | [a],_=>
  simp only [prodN,Nat.mul_one] at hr hs
  simp only [tupN,List.cons.injEq,and_true,Nat.mod_eq_of_lt hr,Nat.mod_eq_of_lt hs] at h
  omega
 | [a,b],_=>
  simp only [prodN,Nat.mul_one] at hr hs
  have hb:=hz b (by simp)
  have r1:r / b<a:=Nat.div_lt_of_lt_mul (by rw [Nat.mul_comm];exact hr)
  have s1:s / b<a:=Nat.div_lt_of_lt_mul (by rw [Nat.mul_comm];exact hs)
  simp only [tupN,List.cons.injEq,and_true,Nat.mod_eq_of_lt r1,Nat.mod_eq_of_lt s1,Int.natCast_inj] at h
  exact dm_eq h.1 h.2
 | [a,b,c],_=>
  simp only [prodN,Nat.mul_one] at hr hs
  have hb:=hz b (by simp)
  have hc:=hz c (by simp)
  have r1:r / c / b<a:=by
   rw [Nat.div_div_eq_div_mul]
   exact Nat.div_lt_of_lt_mul (by rw [Nat.mul_comm c b,Nat.mul_comm];exact hr)
  have s1:s / c / b<a:=by
   rw [Nat.div_div_eq_div_mul]
   exact Nat.div_lt_of_lt_mul (by rw [Nat.mul_comm c b,Nat.mul_comm];exact hs)
  simp only [tupN,List.cons.injEq,and_true,Nat.mod_eq_of_lt r1,Nat.mod_eq_of_lt s1,Int.natCast_inj] at h
  exact dm_eq (dm_eq h.1 h.2.1) h.2.2
 | _::_::_::_::_,h=>simp at h
theorem tup_wide2 {zs:List Nat} (hz:∀ z∈zs,1≤z∧z≤6) {r:Nat}:wide64 (tupN zs r)∧(tupN zs r).length≤3:=by
 have key:∀ z∈zs,∀ y:Nat,-9223372036854775807≤((y % z:Nat):Int)∧((y % z:Nat):Int)≤9223372036854775807:=λz h y=>by
  have h1:=hz z h
  have:=Nat.mod_lt y (show 0<z by omega)
  omega
 unfold tupN wide64
 split
 ·simp
 ·exact ⟨λx hx=>by simp at hx;subst hx;exact key _ (by simp) _,by simp⟩
 ·refine ⟨λx hx=>?_,by simp⟩
  simp only [yD,List.not_mem_nil,or_false] at hx
  rcases hx with rfl | rfl <;> exact key _ (by simp) _
 ·refine ⟨λx hx=>?_,by simp⟩
  simp only [yD,List.not_mem_nil,or_false] at hx
  rcases hx with rfl | rfl | rfl <;> exact key _ (by simp) _
 ·simp
theorem cellW_inj {m:Model} (hL:layoutP m.sorts m.tables=true) {c d:Int} (c0:0≤c) (c1:c<((boxM m).length:Int)) (d0:0≤d) (d1:d<((boxM m).length:Int)) (h:cellW m c=cellW m d):c=d:=by
 obtain ⟨t,ht,r,hr,e1,e2⟩:=cellW_at hL c0 c1
 obtain ⟨u,hu,s,hs,f1,f2⟩:=cellW_at hL d0 d1
 rw [e2,f2] at h
 obtain ⟨g1,g2⟩:=namedP_inj (tab_name hL ht).2 (tab_name hL hu).2 (tup_wide2 (zs_ok hL ht).2).1 (tup_wide2 (zs_ok hL hu).2).1 h
 obtain rfl:=(lay_names (lay_big hL).2.1).2 t ht u hu g1
 have:=tupN_inj (zs_ok hL ht).1 (zs_ok hL ht).2 hr hs g2
 omega
theorem cellW_ne {m:Model} (hL:layoutP m.sorts m.tables=true) {c:Int} (c0:0≤c) (c1:c<((boxM m).length:Int)):cellW m c≠[]:=by
 obtain ⟨t,ht,r,hr,e1,e2⟩:=cellW_at hL c0 c1
 rw [e2];exact namedP_ne
theorem cellW_len {m:Model} (hL:layoutP m.sorts m.tables=true) {c:Int} (c0:0≤c) (c1:c<((boxM m).length:Int)):(cellW m c).length≤25000:=by
 obtain ⟨t,ht,r,hr,e1,e2⟩:=cellW_at hL c0 c1
 have:=tup_wide2 (zs_ok hL ht).2 (r:=r)
 rw [e2];exact namedP_len (by have:=(tab_name hL ht).1;omega) (by omega) this.1
theorem lessP_irr:∀ a,lessP a a=false
 | []=>rfl
 | x::l=>by rw [lessP,if_pos rfl];exact lessP_irr l
theorem lessP_tr:∀ {a b c:List Int},lessP a b=true→lessP b c=true→lessP a c=true
 | [],[],_,h,_=>by simp [lessP] at h
 | [],_::_,[],_,h=>by simp [lessP] at h
 | [],_::_,_::_,_,_=>rfl
 | _::_,[],_,h,_=>by simp [lessP] at h
 | _::_,_::_,[],_,h=>by simp [lessP] at h
 | x::a,y::b,z::c,h1,h2=>by
  simp only [lessP] at h1 h2 ⊢
  by_cases e1:x=y
  ·subst e1
   rw [if_pos rfl] at h1
   by_cases e2:x=z
   ·rw [if_pos e2] at h2 ⊢;exact lessP_tr h1 h2
   ·rw [if_neg e2] at h2 ⊢;exact h2
  ·rw [if_neg e1,yd] at h1
   by_cases e2:y=z
   ·subst e2;rw [if_neg e1];simpa using h1
   ·rw [if_neg e2,yd] at h2
    rw [if_neg (by omega)];simp;omega
def keyA (a:Action):List Int:=a.operation::a.arguments
theorem ord_key {b a:Action} (h:ordP b a=true):lessP (keyA b) (keyA a)=true:=by
 unfold keyA
 rw [lessP]
 by_cases e:b.operation=a.operation
 ·rw [if_pos e]
  simp only [ordP,yc] at h
  simpa [e] using h.2
 ·rw [if_neg e]
  simp only [ordP,yc,yy,yE] at h
  rw [yd]
  have:=h.1
  omega
theorem act_next {m:Model} (hV:ValidM m) {j:Nat} (hj:j+1<m.actions.length):lessP (keyA m.actions[j]) (keyA m.actions[j+1])=true:=by
 have h:=hV.acts
 simp only [actsP,yc] at h
 have:=allR_0.1 h.2 (j+1) hj
 simp only [idx_nat hj,yh,actP,yc,yw,yd] at this
 have h2:=this.1.2
 rw [show j+1 - 1=j by omega,idx_nat (show j<m.actions.length by omega),yh] at h2
 rcases h2 with h2 | h2
 ·omega
 ·exact ord_key h2
theorem act_less {m:Model} (hV:ValidM m):∀ (d i:Nat) (h:i+d+1<m.actions.length),lessP (keyA m.actions[i]) (keyA m.actions[i+d+1])=true
 | 0,i,h=>act_next hV h
 | d+1,i,h=>lessP_tr (act_less hV d i (by omega)) (act_next hV (j:=i+d+1) (by omega))
theorem act_inj {m:Model} (hV:ValidM m) {i j:Nat} (hi:i<m.actions.length) (hj:j<m.actions.length) (e:keyA m.actions[i]=keyA m.actions[j]):i=j:=by
 rcases Nat.lt_trichotomy i j with h | h | h
 ·obtain ⟨d,rfl⟩:∃ d,j=i+d+1:=⟨j - i - 1,by omega⟩
  have:=act_less hV d i hj
  rw [e,lessP_irr] at this;cases this
 ·exact h
 ·obtain ⟨d,rfl⟩:∃ d,i=j+d+1:=⟨i - j - 1,by omega⟩
  have:=act_less hV d j hi
  rw [e,lessP_irr] at this;cases this
theorem argsP_wide {m:Model} (hs:m.sorts.all sizeOK=true):∀ {l k:List Int},argsP m l k=true→l.length=k.length→∀ x∈k,-9999≤x∧x≤9999
 | [],[],_,_,x,hx=>by simp at hx
 | [],_::_,_,h,_,_=>by simp at h
 | _::_,[],_,h,_,_=>by simp at h
 | s::l,y::k,h,hl,x,hx=>by
  simp only [argsP,yc] at h
  rcases yD.1 hx with rfl | hx
  ·have h1:=h.1
   simp only [argP,aroundP,yc,yw,yy,yE,yd] at h1
   have hb:(idx m.sorts s).getD default≤6:=by
    cases e:idx m.sorts s with
    | none=>simp only [Option.getD_none];decide
    | some v=>
     have:=yr.1 hs v (idx_mem e)
     simp only [sizeOK,yc,yd] at this
     simp only [yh];omega
   omega
  ·exact argsP_wide hs h.2 (by simpa using hl) x hx
theorem distP_at:∀ {l seen:List (List UInt8)},distP seen l=true→(∀ w∈l,nameP w=true∧w∉seen)∧l.Nodup
 | [],_,_=>⟨by simp,by simp⟩
 | x::l,seen,h=>by
  simp only [distP,yc,yy,yE] at h
  obtain ⟨k1,k2⟩:=distP_at h.2
  refine ⟨λw hw=>?_,List.nodup_cons.2 ⟨λhx=>(k1 x hx).2 (by simp),k2⟩⟩
  rcases yD.1 hw with rfl | hw
  ·exact h.1
  ·exact ⟨(k1 w hw).1,λhs=>(k1 w hw).2 (by simp [hs])⟩
structure ActW (m:Model) (a:Action):Prop where
 op:idx m.operations a.operation=some (opAt m a)
 ge:0≤a.operation
 lt:a.operation<(m.operations.length:Int)
 name:wordP (opAt m a).name=true
 nlen:(opAt m a).name.length≤16
 wide:wide64 a.arguments
 alen:a.arguments.length≤3
theorem act_w {m:Model} (hV:ValidM m) {a:Action} (ha:a∈m.actions):ActW m a:=by
 obtain ⟨j,hj,rfl⟩:=List.getElem_of_mem ha
 have h:=hV.acts
 simp only [actsP,yc] at h
 have:=allR_0.1 h.2 j hj
 rw [idx_nat hj,yh] at this
 simp only [actP,yc,beq_iff_eq] at this
 obtain ⟨⟨⟨⟨h1,h2⟩,h3⟩,-⟩,-⟩:=this
 obtain ⟨o1,o2⟩:=opAt_idx (m:=m) (a:=m.actions[j]) (by simpa using h1)
 have hO:=hV.ops
 have h4:=(opsP_sorts hO _ o2).1
 simp only [yd] at h1
 simp only [opsP,yc] at hO
 have hnm:=((distP_at hO.2.2).1 _ (List.mem_map_of_mem (f:=(·.name)) o2)).1
 simp only [nameP,yc,yd] at hnm
 have hw:=argsP_wide (lay_big hV.lay).1 h3 h2.symm
 exact ⟨o1,h1.1,h1.2,hnm.2.1,hnm.1,λx hx=>by have:=hw x hx;omega,by omega⟩
def actW (m:Model) (a:Action):List UInt8:=namedP (opAt m a).name a.arguments
theorem sAction_eq {n:Nat} {m:Model} {i:Int} {a:Action} (hV:ValidM m) (ha:idx m.actions i=some a) (hn:1000000≤n):scenario_action n m i=some (actW m a):=by
 have h:=act_w hV (idx_mem ha)
 unfold scenario_action
 rw [ha,yb,h.op,yb,sNamed_eq (by have:=h.nlen;omega) (by have:=h.alen;omega) h.wide hn];rfl
theorem actW_inj {m:Model} (hV:ValidM m) {i j:Nat} (hi:i<m.actions.length) (hj:j<m.actions.length) (e:actW m m.actions[i]=actW m m.actions[j]):i=j:=by
 have hA:=act_w hV (yt hi)
 have hB:=act_w hV (yt hj)
 obtain ⟨e1,e2⟩:=namedP_inj hA.name hB.name hA.wide hB.wide e
 have hO:=hV.ops
 simp only [opsP,yc] at hO
 have hnd:=(distP_at hO.2.2).2
 obtain ⟨x,hx⟩:=yT hA.ge
 obtain ⟨y,hy⟩:=yT hB.ge
 have hxl:=hA.lt
 have hyl:=hB.lt
 rw [hx] at hxl
 rw [hy] at hyl
 have ox:=hA.op
 have oy:=hB.op
 rw [hx,idx_nat (by omega)] at ox
 rw [hy,idx_nat (by omega)] at oy
 injection ox with ox
 injection oy with oy
 have hxy:x=y:=by
  refine (List.getElem_inj (h₀:=by rw [yO];omega) (h₁:=by rw [yO];omega) hnd).1 ?_
  rw [List.getElem_map,List.getElem_map,ox,oy];exact e1
 refine act_inj hV hi hj ?_
 unfold keyA
 rw [hx,hy,hxy,e2]
def signW (i:Nat) (f:Int):List UInt8:=if i=0 then (if f<0 then [45] else []) else if f<0 then [32,45,32] else [32,43,32]
def timesW (f:Int):List UInt8:=if f=1∨f = -1 then [] else itoaL (if f<0 then -f else f)++[32,42,32]
def termW (m:Model) (i:Nat) (t:Term):List UInt8:=signW i t.factor++(timesW t.factor++cellW m t.cell)
def termsW (m:Model):Nat→List Term→List UInt8
 | _,[]=>[]
 | i,t::l=>termW m i t++termsW m (i+1) l
def rowW (m:Model) (r:Row):List UInt8:=(if r.terms=[] then [48] else termsW m 0 r.terms)++([32,60,61,32]++itoaL r.bound)
theorem termsW_snoc (m:Model) (t:Term):∀ (l:List Term) (i:Nat),termsW m i (l++[t])=termsW m i l++termW m (i+l.length) t
 | [],i=>by simp [termsW]
 | x::l,i=>by simp only [yW,termsW,termsW_snoc m t l (i+1),yR,yP];congr 3;omega
theorem signW_len (i:Nat) (f:Int):(signW i f).length≤3:=by unfold signW;split <;> split <;> simp
theorem timesW_len {f:Int} (h : -1000≤f∧f≤1000):(timesW f).length≤24:=by
 unfold timesW
 split
 ·simp
 ·have:(itoaL (if f<0 then -f else f)).length≤21:=by split <;> exact itoaL_len (by omega) (by omega)
  simp;omega
structure RowW (m:Model) (r:Row):Prop where
 terms:∀ t∈r.terms,termOK (boxM m).length t∧t.factor≠0
 len:r.terms.length≤1000
 lo : -1000000000≤r.bound
 hi:r.bound≤1000000000
section
variable {n:Nat} {m:Model} {r:Row} (hS:SmallM m) (hL:layoutP m.sorts m.tables=true) (hR:RowW m r) (hn:1000000≤n)
include hS hL hR
theorem box_1e6:((boxM m).length:Int)≤1000000:=by
 have:=box_len hS hL
 omega
theorem termsW_len:∀ (l:List Term) (i:Nat),(∀ t∈l,t∈r.terms)→(termsW m i l).length≤25100*l.length
 | [],_,_=>by simp [termsW]
 | t::l,i,h=>by
  have ht:=hR.terms t (h t (by simp))
  have h1:=signW_len i t.factor
  have h2:=timesW_len ht.1.2.2
  have h3:=cellW_len hL ht.1.1 ht.1.2.1
  have h4:=termsW_len l (i+1) λu hu=>h u (by simp [hu])
  simp only [termsW,termW,yS,yR]
  omega
include hn
theorem take_len (i:Nat):(termsW m 0 (r.terms.take i)).length≤25100*1000:=by
 have h1:=termsW_len hS hL hR (r.terms.take i) 0 λt ht=>List.mem_of_mem_take ht
 have h2:=hR.len
 have:(r.terms.take i).length≤1000:=by simp;omega
 omega
theorem sRow_eq:scenario_row n m r=some (rowW m r):=by
 have hb:=box_1e6 hS hL hR
 have hrl:=hR.len
 have hlo:=hR.lo
 have hhi:=hR.hi
 have hbl:=itoaL_len (x:=r.bound) (by omega) (by omega)
 have:=loopF_g (body:=scenario_row.l1 n m r) (len:=r.terms.length) (st:=λi=>(termsW m 0 (r.terms.take i),(i:Int))) (g:=λ_=>some (rowW m r)) (λrec i hi hr=>?_) (λrec=>?_) n 0 (yC _) (by omega)
 ·simpa [scenario_row,termsW] using this
 ·obtain ⟨⟨t0,t1,t2,t3⟩,t4⟩:=hR.terms _ (yt hi)
  have hcl:=cellW_len hL t0 t1
  have htk:=take_len hS hL hR hn i
  have htk0:(termsW m 0 []).length=0:=rfl
  have hneg:neg64 r.terms[i].factor = -r.terms[i].factor:=by unfold neg64;exact w64_id (by omega) (by omega)
  have hmax:gmax r.terms[i].factor (-r.terms[i].factor)=if r.terms[i].factor<0 then -r.terms[i].factor else r.terms[i].factor:=by unfold gmax;split <;> split <;> omega
  rw [yI hi,termsW_snoc,List.length_take_of_le (by omega),uh] at hr
  simp only [scenario_row.l1,lt_len hi,if_true,idx_nat hi,yb,jn,sCell_eq hL ⟨show -1000000≤r.terms[i].cell by omega,by omega⟩ hn,add64_1 (i:=i) (by omega),hneg,hmax]
  have key:∀ p:List UInt8,p.length≤25200000→(if ((r.terms[i].factor != 1)&&(r.terms[i].factor != (-1)))=true then
    (strconv_Itoa n (if r.terms[i].factor<0 then -r.terms[i].factor else r.terms[i].factor)).bind λx53_51=>(cat x53_51 [32,42,32]).bind λx54_52=>(cat p x54_52).bind λx55_53=>(cat x55_53 (cellW m r.terms[i].cell)).bind λx61_55=>rec (x61_55,((i+1:Nat):Int))
   else (cat p (cellW m r.terms[i].cell)).bind λx61_55=>rec (x61_55,((i+1:Nat):Int)))=rec (p++(timesW r.terms[i].factor++cellW m r.terms[i].cell),((i+1:Nat):Int)):=λp hp=>by
   have hil:(itoaL (if r.terms[i].factor<0 then -r.terms[i].factor else r.terms[i].factor)).length≤21:=by split <;> exact itoaL_len (by omega) (by omega)
   unfold timesW
   by_cases h1:r.terms[i].factor=1∨r.terms[i].factor = -1
   ·rw [if_neg (by rcases h1 with h1 | h1 <;> simp [h1]),if_pos h1,cat_some (by omega),yb,y6]
   ·rw [if_pos (by simpa using h1),if_neg h1,Itoa_some (by split <;> omega) (by split <;> omega),yb,cat_some (by simp;omega),yb,cat_some (by simp;omega),yb,cat_some (by simp;omega),yb,yP]
  have hz:((i:Int)==0)=decide (i=0):=by
   rw [Bool.eq_iff_iff];simp
  have hp:decide (0<(i:Int)) = !decide (i=0):=by
   rw [Bool.eq_iff_iff];simp;omega
  rw [hz,hp]
  unfold termW at hr
  unfold signW at hr
  by_cases e:i=0
  ·subst e
   by_cases h1:r.terms[0].factor<0
   ·rw [if_pos rfl,if_pos h1] at hr
    rw [if_pos (by simpa using h1),cat_some (by simp;omega),yb,key _ (by simp;omega),yP]
    exact hr
   ·rw [if_pos rfl,if_neg h1] at hr
    rw [if_neg (by simpa using h1),if_neg (by simp),if_neg (by simp),key _ (by omega)]
    exact hr
  ·by_cases h1:r.terms[i].factor<0
   ·rw [if_neg e,if_pos h1] at hr
    rw [if_neg (by simp [e]),if_pos (by simp [e,h1]),cat_some (by simp;omega),yb,key _ (by simp;omega),yP]
    exact hr
   ·rw [if_neg e,if_neg h1] at hr
    rw [if_neg (by simp [e]),if_neg (by simp [h1]),if_pos (by simp [e]),cat_some (by simp;omega),yb,key _ (by simp;omega),yP]
    exact hr
 ·have htk:=take_len hS hL hR hn r.terms.length
  simp only [scenario_row.l1,ge_len,yk,if_false,List.take_length,jn] at htk ⊢
  unfold rowW
  cases hts:r.terms with
  | nil=>
   rw [if_pos (by simp [termsW]),cat_some (by simp),yb,Itoa_some (by omega) (by omega),yb,cat_some (by simp;omega),if_pos rfl,yP];rfl
  | cons t l=>
   have ht:=hR.terms t (by rw [hts];simp)
   have hne:=cellW_ne hL ht.1.1 ht.1.2.1
   rw [hts] at htk
   rw [if_neg (by simp [termsW,termW,hne]),cat_some (by simp;omega),yb,Itoa_some (by omega) (by omega),yb,cat_some (by simp;omega),if_neg (by simp),yP];rfl
end
theorem rowW_of {m:Model} {r:Row} (h:rowOK (boxM m).length r=true) (hl:r.terms.length≤1000):RowW m r:=by
 simp only [rowOK,aroundP,yc,yd] at h
 refine ⟨λt ht=>⟨rowP_terms h.1 (by decide) t ht,?_⟩,hl,by omega,by omega⟩
 have:∀ {l:List Term} {last:Int},rowP (boxM m).length last l=true→∀ t∈l,t.factor≠0:=by
  intro l
  induction l with
  | nil=>intro _ _ t ht;simp at ht
  | cons x l ih=>
   intro last h t ht
   simp only [rowP,yc,bne_iff_ne] at h
   rcases yD.1 ht with rfl | ht
   ·exact h.1.1.2
   ·exact ih h.2 t ht
 exact this h.1 t ht
theorem con_row {m:Model} (hV:ValidM m) {c:Constraint} (hc:c∈m.constraints):rowOK (boxM m).length c.row=true:=by
 rcases valid_con hV hc with h | h
 ·simp only [plainP,yc] at h
  exact h.2
 ·simp only [acyP,graphP,yc,beq_iff_eq] at h
  obtain ⟨-,⟨h1,h2⟩,-⟩:=h
  have e:c.row.terms=[]:=yQ (by omega)
  simp [rowOK,e,rowP,h2,aroundP]
theorem sRight_eq {n:Nat} {m:Model} {r:Row} (hS:SmallM m) (hL:layoutP m.sorts m.tables=true) (h:rowOK (boxM m).length r=true) (hl:r.terms.length≤1000) (hn:1000000≤n):scenario_right n m r=some true:=by
 have hR:=rowW_of h hl
 have hb:=box_1e6 hS hL hR
 have h2:=h
 simp only [rowOK,aroundP,yc,yd] at h2
 have:=loopF_I (body:=scenario_right.l1 n m r) (len:=r.terms.length) (st:=λ(s:Int) i=>(s,(i:Int))) (g:=λ_ _=>some true) (λi s=>rowP (boxM m).length s (r.terms.drop i)=true) (λrec i s hi hI hr=>?_) (λrec s _=>?_) n 0 (-1) (yC _) (by omega) (by simpa using h2.1)
 ·simpa [scenario_right] using this
 ·obtain ⟨⟨t0,t1,t2,t3⟩,t4⟩:=hR.terms _ (yt hi)
  rw [drop_cons hi] at hI
  simp only [rowP,aroundP,yc,yd,bne_iff_ne] at hI
  have hne:=cellW_ne hL t0 t1
  simp only [scenario_right.l1,lt_len hi,if_true,idx_nat hi,yb,sCell_eq hL ⟨show -1000000≤r.terms[i].cell by omega,by omega⟩ hn,yj,yx,grd,yh,add64_1 (i:=i) (by omega),hr r.terms[i].cell hI.2]
  rw [if_neg]
  simp only [yw,yd,beq_iff_eq]
  rintro ((((h3 | h3) | h3) | h3) | h3)
  ·omega
  ·exact t4 h3
  ·omega
  ·omega
  ·exact hne h3
 ·simp only [scenario_right.l1,ge_len,yk,if_false]
  simp;omega
section
variable {n:Nat} {m:Model} (hF:Fuel n) (hS:SmallM m) (hV:ValidM m)
include hF hS hV
theorem valid_m:model_Valid n m=some true:=by rw [model_Valid_eq hF hS,validP_iff.2 hV]
theorem sCellQ_eq {c:Int} (hc : -1000000≤c∧c≤1000000):scenario_Cell n m c=some (cellW m c):=by
 have hn:=hF.big
 unfold scenario_Cell
 rw [valid_m hF hS hV,yb,if_neg (by simp),sCell_eq hV.lay hc (by omega)];rfl
theorem sActionQ_eq {i:Int} {a:Action} (ha:idx m.actions i=some a):scenario_Action n m i=some (actW m a):=by
 have hn:=hF.big
 have hb:0≤i∧i<(m.actions.length:Int):=by
  unfold idx at ha
  split at ha
  ·rename_i h
   have:=ya.1 ha
   obtain ⟨h1,-⟩:=this
   omega
  ·cases ha
 unfold scenario_Action
 rw [valid_m hF hS hV,yb,if_neg (by simp;omega),sAction_eq hV ha (by omega)];rfl
theorem sRowQ_eq {r:Row} (h:rowOK (boxM m).length r=true) (hl:r.terms.length≤1000):scenario_Row n m r=some (rowW m r):=by
 have hn:=hF.big
 unfold scenario_Row
 rw [valid_m hF hS hV,yb,sRight_eq hS hV.lay h hl (by omega)]
 simp only [yj,yx,grd,if_true,yh]
 rw [if_neg (by simp),sRow_eq hS hV.lay (rowW_of h hl) (by omega)];rfl
end
def SeqW:List (List UInt8)→List UInt8→Prop
 | [],_=>True
 | w::l,s=>∃ a b,s=a++(w++b)∧SeqW l b
theorem SeqW.pre {l:List (List UInt8)} {s:List UInt8} (h:SeqW l s) (p:List UInt8):SeqW l (p++s):=by
 cases l with
 | nil=>trivial
 | cons w l=>
  obtain ⟨a,b,rfl,h2⟩:=h
  exact ⟨p++a,b,by simp,h2⟩
theorem termsW_seq (m:Model) (q:List UInt8):∀ (l:List Term) (i:Nat),SeqW (l.map λt=>cellW m t.cell) (termsW m i l++q)
 | [],_=>trivial
 | t::l,i=>⟨signW i t.factor++timesW t.factor,termsW m (i+1) l++q,by simp [termsW,termW],termsW_seq m q l (i+1)⟩
theorem index_first {w:List UInt8}:∀ {a b:List UInt8},∃ i:Nat,Lib.index (a++(w++b)) w=(i:Int)∧i≤a.length
 | [],b=>by
  refine ⟨0,?_,ym _⟩
  rw [y6]
  cases hs:w++b with
  | nil=>
   have:w=[]:=by simp at hs;exact hs.1
   subst this;rfl
  | cons x l=>
   rw [Lib.index,if_pos (by rw [← hs,List.isPrefixOf_iff_prefix];exact List.prefix_append _ _)];rfl
 | x::a,b=>by
  obtain ⟨i,h1,h2⟩:=index_first (w:=w) (a:=a) (b:=b)
  rw [yW,Lib.index]
  split
  ·exact ⟨0,rfl,yC _⟩
  ·rw [h1,if_neg (by simp)]
   exact ⟨i+1,by push_cast;rfl,by simp;omega⟩
theorem Cut_eq {n:Nat} {w a b:List UInt8} (hl:(a++(w++b)).length<1000000000):∃ x p,strings_Cut n (a++(w++b)) w=some (x,p++b,true):=by
 obtain ⟨i,h1,h2⟩:=index_first (w:=w) (a:=a) (b:=b)
 have hlen:(a++(w++b)).length=a.length+(w.length+b.length):=by simp
 unfold strings_Cut internal_stringslite_Cut internal_stringslite_Index
 rw [if_pos (by omega),yb,h1,if_pos (by simp)]
 have e0:cut (a++(w++b)) 0 (i:Int)=some ((a++(w++b)).take i):=by
  have:=cut_nat (l:=a++(w++b)) (a:=0) (b:=i) (yC _) (by omega)
  simpa using this
 have e1:cut (a++(w++b)) (add64 (i:Int) (w.length:Int)) ((a++(w++b)).length:Int)=some ((a++(w++b)).drop (i+w.length)):=by
  rw [add64_nat (by omega),cut_end (by omega)]
 rw [e0,yb,e1,yb]
 refine ⟨(a++(w++b)).take i,(a++w).drop (i+w.length),?_⟩
 have e2:(a++(w++b)).drop (i+w.length)=(a++w).drop (i+w.length)++b:=by rw [← yP,List.drop_append_of_le_length (by simp;omega)]
 rw [e2];rfl
theorem rows_loop {n:Nat} {m:Model} (hF:Fuel n) (hS:SmallM m) (hV:ValidM m):loopF (law24_ScenarioNames.l1 n m) n 0=some true:=by
 have hn:=hF.big
 have hcl:=hS.constraints
 have:=loopF_g (body:=law24_ScenarioNames.l1 n m) (len:=m.constraints.length) (st:=λi=>(i:Int)) (g:=λ_=>some true) (λrec i hi hr=>?_) (λrec=>?_) n 0 (yC _) (by omega)
 ·simpa using this
 ·have hc:=yt hi
  have hrow:=con_row hV hc
  have htl:=hS.con _ hc
  have hR:=rowW_of hrow (show m.constraints[i].row.terms.length≤1000 by omega)
  have hb:=box_1e6 hS hV.lay hR
  simp only [law24_ScenarioNames.l1,lt_len hi,if_true,idx_nat hi,yb,sRowQ_eq hF hS hV hrow (by omega)]
  have hlen0:(rowW m m.constraints[i].row).length<1000000000:=by
   have h1:=take_len hS hV.lay hR (n:=n) (by omega) m.constraints[i].row.terms.length
   have h2:=itoaL_len (x:=m.constraints[i].row.bound) (by have:=hR.lo;omega) (by have:=hR.hi;omega)
   rw [List.take_length] at h1
   unfold rowW
   split <;> simp <;> omega
  have inner:=loopF_I (body:=law24_ScenarioNames.l2 n m i rec m.constraints[i]) (len:=m.constraints[i].row.terms.length) (st:=λ(s:List UInt8) k=>(s,(k:Int))) (g:=λ_ _=>some true) (λk s=>s.length<1000000000∧SeqW ((m.constraints[i].row.terms.drop k).map λt=>cellW m t.cell) s) (λrec2 k s hk hI hr2=>?_) (λrec2 s _=>?_) n 0 (rowW m m.constraints[i].row) (yC _) (by omega) ⟨hlen0,?_⟩
  ·simpa using inner
  ·obtain ⟨hs,hI⟩:=hI
   obtain ⟨⟨t0,t1,t2,t3⟩,t4⟩:=hR.terms _ (yt hk)
   rw [drop_cons hk,yL] at hI
   obtain ⟨a,b,rfl,h2⟩:=hI
   obtain ⟨x,p,hcut⟩:=Cut_eq (n:=n) hs
   have hlen:(p++b).length<1000000000:=by
    have h3:(p++b).length≤(a++(cellW m m.constraints[i].row.terms[k].cell++b)).length:=by
     unfold strings_Cut internal_stringslite_Cut internal_stringslite_Index at hcut
     rw [if_pos (by omega),yb] at hcut
     split at hcut
     ·cases h5:cut (a++(cellW m m.constraints[i].row.terms[k].cell++b)) 0 (Lib.index (a++(cellW m m.constraints[i].row.terms[k].cell++b)) (cellW m m.constraints[i].row.terms[k].cell)) with
      | none=>rw [h5] at hcut;simp at hcut
      | some y=>
       rw [h5] at hcut
       simp only [yb] at hcut
       cases h6:cut (a++(cellW m m.constraints[i].row.terms[k].cell++b)) (add64 (Lib.index (a++(cellW m m.constraints[i].row.terms[k].cell++b)) (cellW m m.constraints[i].row.terms[k].cell)) ((cellW m m.constraints[i].row.terms[k].cell).length:Int)) ((a++(cellW m m.constraints[i].row.terms[k].cell++b)).length:Int) with
       | none=>rw [h6] at hcut;simp at hcut
       | some z=>
        rw [h6] at hcut
        simp only [yb,yf,yq] at hcut
        rw [← hcut.2.1]
        unfold cut at h6
        split at h6
        ·injection h6 with h6
         rw [← h6];simp;omega
        ·cases h6
     ·simp at hcut
    omega
   simp only [law24_ScenarioNames.l2,lt_len hk,if_true,idx_nat hk,yb,sCellQ_eq hF hS hV ⟨show -1000000≤m.constraints[i].row.terms[k].cell by omega,by omega⟩,hcut,ub,yk,if_false,add64_1 (i:=k) (by omega)]
   exact hr2 _ ⟨hlen,h2.pre p⟩
  ·simp only [law24_ScenarioNames.l2,ge_len,yk,if_false,add64_1 (i:=i) (by omega)]
   exact hr
  ·rw [List.drop_zero]
   unfold rowW
   by_cases e:m.constraints[i].row.terms=[]
   ·rw [e];trivial
   ·rw [if_neg e]
    exact termsW_seq m _ _ 0
 ·simp [law24_ScenarioNames.l1]
theorem Names_law {m:Model} {i k:Int}:law24_ScenarioNames 18446744073709551616 m i k=some true:=by
 unfold law24_ScenarioNames
 simp only [awake_spec,yb,ub,yk,if_false,ref13_Few_eq big1]
 cases hf:fewP m with
 | false=>simp [grd]
 | true=>
  have hS:=fewP_small hf
  rw [ref13_Valid_eq big2 hS]
  simp only [ub,uj,yj,yx,grd,if_true,yh]
  cases hv:validP m with
  | false=>simp
  | true=>
   have hV:=validP_iff.1 hv
   have hb:((boxM m).length:Int)≤1000000:=by have:=box_len hS hV.lay;omega
   rw [if_neg (by simp),ref16_Total_eq hV.lay big1,yb]
   have hloop:=rows_loop fuel_N hS hV
   have hcell:∀ c:Int,0≤c→c<((boxM m).length:Int)→scenario_Cell 18446744073709551616 m c=some (cellW m c):=λc h0 h1=>sCellQ_eq fuel_N hS hV ⟨by omega,by omega⟩
   have hact:∀ c:Int,0≤c→c<(m.actions.length:Int)→∃ (j:Nat) (hj:j<m.actions.length),c=(j:Int)∧scenario_Action 18446744073709551616 m c=some (actW m m.actions[j]):=λc h0 h1=>by
    obtain ⟨j,rfl⟩:=yT h0
    exact ⟨j,by omega,rfl,sActionQ_eq fuel_N hS hV (idx_nat (by omega))⟩
   by_cases hc:((((decide (0≤i))&&(decide (0≤k)))&&(decide (i<((boxM m).length:Int))))&&(decide (k<((boxM m).length:Int))))=true
   ·have hc2:=hc
    simp only [yc,yd] at hc2
    obtain ⟨⟨⟨c1,c2⟩,c3⟩,c4⟩:=hc2
    rw [hcell i c1 c3,hcell k c2 c4]
    simp only [yj,yx,if_true,yh]
    have e:decide (cellW m i=cellW m k)=(i==k):=by
     rw [Bool.eq_iff_iff]
     simp only [yd,beq_iff_eq]
     exact ⟨cellW_inj hV.lay c1 c3 c2 c4,λh=>by rw [h]⟩
    simp only [e,uC,Bool.and_false,yk,if_false]
    by_cases ha:((((decide (0≤i))&&(decide (0≤k)))&&(decide (i<(m.actions.length:Int))))&&(decide (k<(m.actions.length:Int))))=true
    ·simp only [yc,yd] at ha
     obtain ⟨⟨⟨a1,a2⟩,a3⟩,a4⟩:=ha
     obtain ⟨x,hx,rfl,e1⟩:=hact i a1 a3
     obtain ⟨y,hy,rfl,e2⟩:=hact k a2 a4
     rw [e1,e2]
     simp only [yj,yx,if_true,yh]
     have e:decide (actW m m.actions[x]=actW m m.actions[y])=((x:Int)==(y:Int)):=by
      rw [Bool.eq_iff_iff]
      simp only [yd,beq_iff_eq,Int.natCast_inj]
      exact ⟨actW_inj hV hx hy,λh=>by subst h;rfl⟩
     simp only [e,uC,Bool.and_false,yk,if_false]
     exact hloop
    ·simp only [yF] at ha
     rw [ha]
     simp only [uq,uz,if_true,yZ,yk,if_false]
     exact hloop
   ·simp only [yF] at hc
    rw [hc]
    simp only [uq,uz,if_true,yZ,yk,if_false]
    by_cases ha:((((decide (0≤i))&&(decide (0≤k)))&&(decide (i<(m.actions.length:Int))))&&(decide (k<(m.actions.length:Int))))=true
    ·simp only [yc,yd] at ha
     obtain ⟨⟨⟨a1,a2⟩,a3⟩,a4⟩:=ha
     obtain ⟨x,hx,rfl,e1⟩:=hact i a1 a3
     obtain ⟨y,hy,rfl,e2⟩:=hact k a2 a4
     rw [e1,e2]
     simp only [yj,yx,if_true,yh]
     have e:decide (actW m m.actions[x]=actW m m.actions[y])=((x:Int)==(y:Int)):=by
      rw [Bool.eq_iff_iff]
      simp only [yd,beq_iff_eq,Int.natCast_inj]
      exact ⟨actW_inj hV hx hy,λh=>by subst h;rfl⟩
     simp only [e,uC,Bool.and_false,yk,if_false]
     exact hloop
    ·simp only [yF] at ha
     rw [ha]
     simp only [uq,uz,if_true,yZ,yk,if_false]
     exact hloop
theorem closed20:joinedFacts Tryz.pinned.checked.prog 8 Tryz.f8 (OpenSpec.ofChange Rows.scenarioNamesSpec).bare Rows.scenarioNamesRow=true:=by
 unfold joinedFacts
 simp only [yc]
 repeat' apply And.intro
 all_goals as_aux_lemma=>kernel_rfl
section
open Go.ChangeShapes Go.WideShapes Go.ChangeAt Go.RowKit
theorem own:ownKnob Tryz.prog.godebug=none:=by kernel_rfl
theorem laidOut:laidOutB Tryz.prog=true:=by kernel_rfl
set_option maxRecDepth 100000 in
theorem contract20 (H:Type) (enc:TypeId×Value→H) (W:World) (base:Nat) (args:Array Value) (ds gs:List (DataW H)) (before:List MemPlace)
  (hval:∀ (j:Nat) t v,Tryz.f8.params[j]? = some t→args[j]? = some v→Value.okWide Tryz.prog W .any base t v)
  (hW:DataW.Whole enc Tryz.prog Tryz.f8.params.toList Rows.scenarioNamesSpec.vars false W args.toList ds gs before) (hL:laidMetH Tryz.prog Rows.scenarioNamesRow.laid W) (hS:W.ShapedOpen Tryz.prog) :
  Calls Tryz.prog 8 args W λe W'=>∃ v,e = .returned v∧Rows.scenarioNamesSpec.post enc Tryz.prog Tryz.f8 false true false false W args v W':=by
 have hW':=hW
 obtain ⟨p,q,hA0,hV,rfl,hfz,hnd⟩:=hW
 have hA:DataW.TrodAll enc Tryz.prog W 0 (λ_=>true) true Tryz.f8.params.toList args.toList ds p:=hA0
 rw [Tryz.params8] at hA hval
 obtain ⟨v0,vs0,d0,ds0,p0,q0,hargs,rfl,rfl,h0,r0⟩:=trodAll_cons hA
 obtain ⟨v1,vs1,d1,ds1,p1,q1,rfl,rfl,rfl,h1,r1⟩:=trodAll_cons r0
 obtain ⟨v2,vs2,d2,ds2,p2,q2,rfl,rfl,rfl,h2,r2⟩:=trodAll_cons r1
 obtain ⟨rfl,rfl,rfl⟩:=trodAll_nil r2
 obtain rfl:args = #[v0,v1,v2]:=by cases args;simp_all
 obtain ⟨rfl,rfl⟩:=trodVars_none hV
 obtain ⟨a0,k0⟩:=dModel.of_arg (hval 0 _ v0 rfl rfl) h0
 obtain ⟨a1,k1⟩:=dInt.of_arg (hval 1 _ v1 rfl rfl) h1
 obtain ⟨a2,k2⟩:=dInt.of_arg (hval 2 _ v2 rfl rfl) h2
 obtain ⟨E,hE⟩:=glob_ok hL hS
 have hrun:=(@law24_ScenarioNames_ok E _ a0 a1 a2 true Names_law).run Noneof W #[v0,v1,v2] (λ_ h=>h.elim) hE (by
  simp only [D.reps]
  exact ⟨v0,_,rfl,k0,v1,_,rfl,k1,v2,_,rfl,k2,rfl⟩)
 refine hrun.mono λe W' ⟨u,he,hf,hu⟩=>?_
 simp only [D.rep] at hu
 subst hu
 subst he
 refine ⟨_,rfl,post_kept hW' rfl rfl rfl laidOut (λt ht=>?_) hf (λ_ _ _=>trodAll_cons_mk (shut_bool Tryz.underlying4 _) trodAll_mk0)⟩
 rw [Tryz.params8] at ht
 have hall:([30,3,3].all λt=>Tryz.prog.readableRec t&&decide (t<Tryz.prog.types.size))=true:=by kernel_rfl
 have:=yr.1 hall t (by simpa using ht)
 simpa using this
theorem reads20 (os:Os) {H:Type} (enc:TypeId×Value→H):∃ places,DataW.whole enc Tryz.prog ((World.laidAll Tryz.prog os Rows.scenarioNamesRow.laid).forCall (λ_ _=>0) ⟨#[],#[.agg #[.slice none 0 0,.slice none 0 0,.slice none 0 0,.slice none 0 0,.slice none 0 0,.slice none 0 0,.slice none 0 0],.int .i64 0,.int .i64 0],[]⟩).memory Tryz.f8.params.toList Rows.scenarioNamesSpec.vars false
  (#[.agg #[.slice none 0 0,.slice none 0 0,.slice none 0 0,.slice none 0 0,.slice none 0 0,.slice none 0 0,.slice none 0 0],.int .i64 0,.int .i64 0]:Array Value).toList 8 =
  some ([.agg [.nil,.nil,.nil,.nil,.nil,.nil,.nil],.lit (.int .i64 0),.lit (.int .i64 0)],[],places):=
 ⟨[],by kernel_rfl⟩
set_option maxRecDepth 100000 in
theorem lifted20 (os:Os) (started:os.Started) (H:Type) (enc:TypeId×Value→H) (F:Stop.Interp) :
  ReturnsInHanded {} Tryz.checked os 8 .any ((OpenSpec.ofChange Rows.scenarioNamesSpec).preRow enc Tryz.prog Tryz.f8 Rows.scenarioNamesRow.domain false Rows.scenarioNamesRow.laid) (((OpenSpec.ofChange Rows.scenarioNamesSpec).at F).post enc Tryz.prog Tryz.f8 false true false false):=by
 obtain ⟨places,hx⟩:=reads20 os enc
 refine returnsInHanded_of_row (C:=Tryz.checked) (s:=OpenSpec.ofChange Rows.scenarioNamesSpec) own started (by kernel_rfl) Tryz.func8
  (witness_row_atRef (enc:=enc) (C:=Tryz.checked) false (World.laidAll Tryz.prog os Rows.scenarioNamesRow.laid) _ (World.laidAll_os _ _ _) (by kernel_rfl) (by kernel_rfl) (by kernel_rfl)
   (OpenSpec.preRow_of_cond 8 hx (by kernel_rfl) (λk hk=>by cases hk) (by kernel_rfl) (laidMet_laidAll _ (by kernel_rfl) (by kernel_rfl)))) ?_
 intro W base args ds gs before hval hW _ _ _ hL hS _
 exact contract20 H enc W base args ds gs before hval hW hL hS
theorem said20:Rows.ScenarioNamesSaid:=
 OpenClaim.holds_of_cond 8 Tryz.f8 rfl rfl rfl rfl rfl rfl rfl ⟨rfl,rfl,rfl,rfl,rfl⟩ rfl rfl rfl rfl rfl (by kernel_rfl) Tryz.func8 closed20
  (of_decide_eq_true (by kernel_rfl)) (by unfold Func.isWrapper;first | (rw [if_pos (by decide +kernel)];kernel_rfl) | (rw [if_neg (by decide +kernel)];exact ⟨rfl,rfl⟩))
  (λos started H enc _ F=>by rw [OpenClaim.pre_eq_preRow];exact lifted20 os started H enc F)
theorem plain20 (f:FuncId) (fn:Func) (hf:Tryz.pinned.checked.prog.funcNamed Rows.scenarioNamesRow.func=some f) (hfn:Tryz.pinned.checked.prog.funcs[f]? = some fn) :
  true=Tryz.pinned.checked.prog.looks []∧∀ (j:Nat) t,fn.params[j]? = some t→Tryz.pinned.checked.prog.wantsStandIn t=false:=by
 obtain rfl:f=8:=Option.some.inj ((show Tryz.prog.funcNamed Rows.scenarioNamesRow.func=some 8 by kernel_rfl).symm.trans hf) |>.symm
 obtain rfl:fn=Tryz.f8:=(Option.some.inj (Tryz.func8.symm.trans hfn)).symm
 refine ⟨by kernel_rfl,λj t ht=>?_⟩
 rw [Tryz.params8] at ht
 have hall:([30,3,3].all λu=>!Tryz.prog.wantsStandIn u)=true:=by kernel_rfl
 have:=yr.1 hall t (by simpa using Array.mem_of_getElem? ht)
 exact (show Tryz.prog.wantsStandIn t=false by simpa using this)
theorem scenarioNames_holds:Rows.ScenarioNamesCardSaid:=
 Claim7.holds_tied_plain_at .later [] _ _ _ _ said20 (λ_ h=>by cases h) (by kernel_rfl) (λ_ h=>by cases h) scenarioNames_row_tie rfl ⟨rfl,rfl⟩ (by kernel_rfl) rfl plain20 (by kernel_rfl)
end
end Go.Proofs.YtbnhmfnagdgcmaaGreatDoor
