/- The law holds for every input. No condition. -/
import Derived.Test.YtbnhmfnagdgcmaaGreatDoorTe05
import Derived.Test.YtbnhmfnagdgcmaaGreatDoorCards
import Derived.Test.YtbnhmfnagdgcmaaGreatDoorTie
import Derived.JoinedCond
import Derived.Deep.DeepWitnessRowRef
import Derived.Lay
import Derived.ProofKit
set_option linter.unusedVariables false
set_option linter.unusedSectionVars false
set_option linter.unusedSimpArgs false
set_option maxHeartbeats 4000000
namespace Go.Proofs.YtbnhmfnagdgcmaaGreatDoor
open Go Go.RowKit
def digB (c:UInt8):Bool:=decide (48≤c.toNat)&&decide (c.toNat≤57)
def numF:Nat→List UInt8→Nat→Nat×Nat
 | 0,_,v=>(0,v)
 | _+1,[],v=>(0,v)
 | k+1,c::l,v=>if digB c=true then ((numF k l (v*10+(c.toNat - 48))).1+1,(numF k l (v*10+(c.toNat - 48))).2) else (0,v)
theorem numF_lt:∀ (k j:Nat) (l:List UInt8) (v:Nat),v<10 ^ j→(numF k l v).2<10 ^ (j+k)∧(numF k l v).1≤k∧(numF k l v).1≤l.length
 | 0,j,l,v,h=>⟨h,yk _,yw _⟩
 | k+1,j,[],v,h=>⟨yF h (uv (by decide) (by omega)),yw _,yk _⟩
 | k+1,j,c::l,v,h=>by
  unfold numF
  by_cases hc:digB c=true
  ·rw [if_pos hc]
   simp only [digB,yc,yd] at hc
   obtain ⟨h1,h2,h3⟩:=numF_lt k (j+1) l (v*10+(c.toNat - 48)) (by rw [uH];omega)
   refine ⟨?_,by simp only [];omega,by simp only [yT];omega⟩
   rw [show j+(k+1)=j+1+k by omega];exact h1
  ·rw [if_neg hc]
   exact ⟨yF h (uv (by decide) (by omega)),yw _,yw _⟩
def foldD (v:Nat) (l:List UInt8):Nat:=l.foldl (λa c=>a*10+(c.toNat - 48)) v
theorem numF_app:∀ {l:List UInt8} {k:Nat} {r:List UInt8} {v:Nat},(∀ c∈l,digB c=true)→l.length≤k→(∀ c,r.head? = some c→digB c=false)→numF k (l++r) v=(l.length,foldD v l)
 | [],0,r,v,_,_,_=>rfl
 | [],k+1,[],v,_,_,_=>rfl
 | [],k+1,c::r,v,_,_,h=>by
  simp [numF,h c rfl,foldD]
 | c::l,0,r,v,_,h,_=>by simp at h
 | c::l,k+1,r,v,hd,hl,hr=>by
  rw [yX,numF,if_pos (hd c (by simp)),numF_app (λd h=>hd d (by simp [h])) (by simpa using hl) hr];rfl
theorem foldD_dec:∀ (k u:Nat),u≤k→foldD 0 (Lib.decDigits u)=u
 | k,u,hk=>by
  by_cases h:u<10
  ·rw [decD_small h]
   simp only [foldD,List.foldl_cons,List.foldl_nil]
   rw [dig_nat h];omega
  ·match k with
   | 0=>omega
   | k+1=>
    have ih:=foldD_dec k (u / 10) (by omega)
    rw [decD_big h]
    unfold foldD at ih ⊢
    rw [List.foldl_append,ih]
    simp only [List.foldl_cons,List.foldl_nil]
    rw [dig_nat (Nat.mod_lt _ (by decide))];omega
theorem digB_dec {u:Nat}:∀ c∈Lib.decDigits u,digB c=true:=λc hc=>by
 have:=decD_mem u u (yk _) c hc
 simp [digB,this]
def finN (s:List UInt8) (f a:Nat) (v:Int):Int×Int:=
 if a=f∨itoaL v≠s.take a∨(∃ c,(s.drop a).head? = some c∧digB c=true) then (0,0) else (v,(a:Int))
instance {s:List UInt8} {a:Nat}:Decidable (∃ c,(s.drop a).head? = some c∧digB c=true):=match h:(s.drop a).head? with
 | none=>isFalse (by simp)
 | some c=>if hc:digB c=true then isTrue ⟨c,rfl,hc⟩ else isFalse (by simpa using hc)
theorem wk_dig {c:Nat} (h1:48≤c) (h2:c≤57):wk .i64 (wk .u8 ((c:Int) - 48))=((c - 48:Nat):Int):=by
 have:∀ d:Fin 10,wk .i64 (wk .u8 ((d.1:Nat):Int))=((d.1:Nat):Int):=by decide +kernel
 have h:=this ⟨c - 48,by omega⟩
 rw [← h]
 congr 2;simp only [];omega
section
variable {n:Nat} {s:List UInt8} (hs:s.length≤100000) (hn:1000000≤n)
include hs hn
theorem num_end {rec:Int×Int→Option (Int×Int)} {f a:Nat} {v:Nat} (hf:f≤1) (ha:a≤s.length) (hv:v<10 ^ 9) (hstop:(a<f+9∧∃ h:a<s.length,digB s[a]=true)→False) :
  ref21_Number.l1 n s (f:Int) rec ((a:Int),(v:Int))=some (finN s f a (if f=1 then -(v:Int) else (v:Int))):=by
 have hp:(10:Nat) ^ 9=1000000000:=by decide
 have hlt:decide ((a:Int)<(s.length:Int))=decide (a<s.length):=decide_eq_decide.2 (by omega)
 have h9:add64 (f:Int) 9=((f+9:Nat):Int):=by rw [show (9:Int)=((9:Nat):Int) from rfl,add64_nat (by omega)]
 have h9b:decide ((a:Int)<((f+9:Nat):Int))=decide (a<f+9):=decide_eq_decide.2 (by omega)
 have hval:∀ w:Int,-1000000000≤w→w≤1000000000→(grd (((a:Int)==(f:Int))||(ref21_Decimal n w).isSome) <|
   grd (((a:Int)==(f:Int))||(cut s 0 (a:Int)).isSome) <|
   grd ((((a:Int)==(f:Int))||(!decide (((ref21_Decimal n w).getD default)=((cut s 0 (a:Int)).getD default))))||(!(decide ((a:Int)<(s.length:Int)))||(sidx s (a:Int)).isSome)) <|
   grd ((((a:Int)==(f:Int))||(!decide (((ref21_Decimal n w).getD default)=((cut s 0 (a:Int)).getD default))))||(!((decide ((a:Int)<(s.length:Int)))&&(decide (48≤((sidx s (a:Int)).getD default))))||(sidx s (a:Int)).isSome)) <|
   if ((((a:Int)==(f:Int))||(!decide (((ref21_Decimal n w).getD default)=((cut s 0 (a:Int)).getD default))))||(((decide ((a:Int)<(s.length:Int)))&&(decide (48≤((sidx s (a:Int)).getD default))))&&(decide (((sidx s (a:Int)).getD default)≤57))))=true then
    some ((0:Int),(0:Int))
   else
    some (w,(a:Int)))=some (finN s f a w):=λw w0 w1=>by
  have e0:cut s 0 (a:Int)=some (s.take a):=by
   have:=cut_nat (l:=s) (a:=0) (b:=a) (yw _) ha
   simpa using this
  have hdec:decide (itoaL w=s.take a) = !decide (itoaL w≠s.take a):=by simp
  rw [Decimal_eq (by omega) (by omega) (by omega),e0,hlt]
  simp only [yi,yt,grd,if_true,yh]
  unfold finN
  by_cases hal:a<s.length
  ·rw [sidx_nat hal]
   simp only [yi,yt,if_true,yh,hal,decide_true,yy]
   have hd:(decide (48≤((s[a].toNat:Nat):Int))&&decide (((s[a].toNat:Nat):Int)≤57))=digB s[a]:=by
    unfold digB
    rw [Bool.eq_iff_iff];simp only [yc,yd];omega
   have hh:(s.drop a).head? = some s[a]:=by rw [drop_cons hal];rfl
   rw [hd]
   by_cases hcond:a=f∨itoaL w≠s.take a∨(∃ c,(s.drop a).head? = some c∧digB c=true)
   ·rw [if_pos hcond,if_pos]
    simp only [yr,beq_iff_eq,Int.natCast_inj,yz,yD]
    rcases hcond with h | h | ⟨c,h1,h2⟩
    ·exact Or.inl (Or.inl h)
    ·exact Or.inl (Or.inr h)
    ·rw [hh] at h1
     injection h1 with h1
     subst h1
     exact Or.inr h2
   ·rw [if_neg hcond,if_neg]
    simp only [yr,beq_iff_eq,Int.natCast_inj,yz,yD]
    rintro ((h | h) | h)
    ·exact hcond (Or.inl h)
    ·exact hcond (Or.inr (Or.inl h))
    ·exact hcond (Or.inr (Or.inr ⟨_,hh,h⟩))
  ·have hnil:(s.drop a).head? = none:=by rw [List.drop_eq_nil_of_le (by omega)];rfl
   simp only [hal,decide_false,uu,uB,yt,if_true,yV,Bool.or_false]
   by_cases hcond:a=f∨itoaL w≠s.take a∨(∃ c,(s.drop a).head? = some c∧digB c=true)
   ·rw [if_pos hcond,if_pos]
    simp only [yr,beq_iff_eq,Int.natCast_inj,yz,yD]
    rcases hcond with h | h | ⟨c,h1,h2⟩
    ·exact Or.inl h
    ·exact Or.inr h
    ·rw [hnil] at h1;cases h1
   ·rw [if_neg hcond,if_neg]
    simp only [yr,beq_iff_eq,Int.natCast_inj,yz,yD]
    rintro (h | h)
    ·exact hcond (Or.inl h)
    ·exact hcond (Or.inr (Or.inl h))
 have hg:grd (!(decide ((a:Int)<(s.length:Int)))||(sidx s (a:Int)).isSome)=(λ(x:Option (Int×Int))=>x)∧grd (!((decide ((a:Int)<(s.length:Int)))&&(decide (48≤((sidx s (a:Int)).getD default))))||(sidx s (a:Int)).isSome)=(λ(x:Option (Int×Int))=>x):=by
  by_cases hal:a<s.length
  ·rw [sidx_nat hal]
   simp only [yi,yt]
   exact ⟨rfl,rfl⟩
  ·rw [hlt]
   simp only [hal,decide_false,uu,uB,yV]
   exact ⟨rfl,rfl⟩
 have hno:((((decide ((a:Int)<(s.length:Int)))&&(decide (48≤((sidx s (a:Int)).getD default))))&&(decide (((sidx s (a:Int)).getD default)≤57)))&&(decide ((a:Int)<add64 (f:Int) 9)))=false:=by
  rw [hlt,h9,h9b]
  by_cases hal:a<s.length
  ·rw [sidx_nat hal,yh]
   by_cases ha9:a<f+9
   ·have hnd:digB s[a]=false:=by
     cases hd:digB s[a] with
     | false=>rfl
     | true=>exact (hstop ⟨ha9,hal,hd⟩).elim
    unfold digB at hnd
    simp only [uh,yD] at hnd ⊢
    left
    rcases hnd with h | h
    ·left;right;omega
    ·right;omega
   ·simp [ha9]
  ·simp [hal]
 simp only [ref21_Number.l1]
 rw [hg.1,hg.2,hno]
 simp only [ym,if_false,jn]
 by_cases h1:f=1
 ·have hneg:neg64 (v:Int) = -(v:Int):=by unfold neg64;exact w64_id (by omega) (by omega)
  rw [if_pos (by simp [h1]),if_pos h1,hneg]
  exact hval _ (by omega) (by omega)
 ·rw [if_neg (by simp;omega),if_neg h1]
  exact hval _ (by omega) (by omega)
theorem num_loop {f:Nat} (hf:f≤1):∀ (k j v m:Nat),k+j=9→f+j≤s.length→v<10 ^ j→k<m →
  loopF (ref21_Number.l1 n s (f:Int)) m (((f+j:Nat):Int),(v:Int))=some (finN s f (f+j+(numF k (s.drop (f+j)) v).1) (if f=1 then -((numF k (s.drop (f+j)) v).2:Int) else ((numF k (s.drop (f+j)) v).2:Int)))
 | k,j,v,0,_,_,_,h=>by omega
 | 0,j,v,m+1,hk,ha,hv,_=>by
  have hj:j=9:=by omega
  subst hj
  exact num_end hs hn hf ha hv (by omega)
 | k+1,j,v,m+1,hk,ha,hv,hm=>by
  have hv9:v<10 ^ 9:=yF hv (uv (by decide) (by omega))
  have hv8:v<10 ^ 8:=yF hv (uv (by decide) (by omega))
  have hp:(10:Nat) ^ 8=100000000:=by decide
  by_cases hal:f+j<s.length
  ·by_cases hd:digB s[f+j]=true
   ·have hd2:=hd
    simp only [digB,yc,yd] at hd2
    have h9:add64 (f:Int) 9=((f+9:Nat):Int):=by rw [show (9:Int)=((9:Nat):Int) from rfl,add64_nat (by omega)]
    have hi:(loopF (ref21_Number.l1 n s (f:Int)) (m+1) (((f+j:Nat):Int),(v:Int)))=loopF (ref21_Number.l1 n s (f:Int)) m (((f+(j+1):Nat):Int),((v*10+(s[f+j].toNat - 48):Nat):Int)):=by
     rw [loopF_s]
     simp only [ref21_Number.l1,lt_len hal,sidx_nat hal,yi,yt,grd,if_true,yh,ya,h9,yy]
     rw [if_pos (by simp only [yc,yd];omega),add64_1 (by omega),wk_dig hd2.1 hd2.2]
     have hmul:mul64 (v:Int) 10=((v*10:Nat):Int):=by rw [show (10:Int)=((10:Nat):Int) from rfl,mul_nat (by omega)]
     rw [hmul,add64_nat (by omega)];rfl
    rw [hi,num_loop hf k (j+1) (v*10+(s[f+j].toNat - 48)) m (by omega) (by omega) (by rw [uH];omega) (by omega),drop_cons hal]
    simp only [numF,if_pos hd,show f+(j+1)=f+j+1 from rfl]
    congr 2;omega
   ·rw [drop_cons hal]
    simp only [numF,if_neg hd,uo]
    exact num_end hs hn hf ha hv9 (λh=>hd (by obtain ⟨-,h1,h2⟩:=h;exact h2))
  ·rw [List.drop_eq_nil_of_le (by omega)]
   simp only [numF,uo]
   exact num_end hs hn hf ha hv9 (λh=>by obtain ⟨-,h1,-⟩:=h;omega)
theorem Number_eq:∃ (f:Nat),f≤1∧f≤s.length∧(f=1↔s.head? = some 45)∧ref21_Number n s=some (finN s f (f+(numF 9 (s.drop f) 0).1) (if f=1 then -((numF 9 (s.drop f) 0).2:Int) else ((numF 9 (s.drop f) 0).2:Int))):=by
 unfold ref21_Number jn
 cases hsc:s with
 | nil=>
  refine ⟨0,by omega,by simp,by simp,?_⟩
  have:=num_loop hs hn (f:=0) (by omega) 9 0 0 n (by omega) (by omega) (by decide) (by omega)
  rw [hsc] at this
  simpa [grd] using this
 | cons c l=>
  have i0:sidx (c::l) 0=some ((c.toNat:Nat):Int):=by
   have:=sidx_nat (l:=c::l) (i:=0) (by simp)
   simpa using this
  rw [i0]
  simp only [yi,yt,grd,if_true,yh]
  by_cases hc:c=45
  ·subst hc
   refine ⟨1,by omega,by simp,by simp,?_⟩
   rw [if_pos (by simp)]
   have:=num_loop hs hn (f:=1) (by omega) 9 0 0 n (by omega) (by rw [hsc];simp) (by decide) (by omega)
   rw [hsc] at this
   simpa using this
  ·have hcn:c.toNat≠45:=λh=>hc (UInt8.toNat_inj.1 h)
   refine ⟨0,by omega,by simp,by simp [hc],?_⟩
   rw [if_neg (by simp only [yc,yd,beq_iff_eq];omega)]
   have:=num_loop hs hn (f:=0) (by omega) 9 0 0 n (by omega) (by omega) (by decide) (by omega)
   rw [hsc] at this
   simpa using this
theorem Number_1:∃ (v:Int) (k:Nat),ref21_Number n s=some (v,(k:Int))∧k≤s.length∧(k≠0→s=itoaL v++s.drop k∧(itoaL v).length=k):=by
 obtain ⟨f,h1,h2,-,h3⟩:=Number_eq hs hn
 obtain ⟨g1,g2,g3⟩:=numF_lt 9 0 (s.drop f) 0 (by decide)
 rw [yO] at g3
 rw [h3]
 generalize (if f=1 then -((numF 9 (s.drop f) 0).2:Int) else ((numF 9 (s.drop f) 0).2:Int))=v
 unfold finN
 split
 ·exact ⟨0,0,rfl,yw _,λh=>absurd rfl h⟩
 ·rename_i hc
  simp only [not_or,Decidable.not_not] at hc
  refine ⟨_,_,rfl,by omega,λ_=>?_⟩
  rw [hc.2.1]
  exact ⟨(ui _ s).symm,by rw [yN];omega⟩
end
theorem Number_2 {n:Nat} {v:Int} {r:List UInt8} (hv:sm6 v) (hr:r=[]∨∃ q,r=32::q) (hl:(itoaL v++r).length≤100000) (hn:1000000≤n):ref21_Number n (itoaL v++r)=some (v,((itoaL v).length:Int)):=by
  obtain ⟨h1,h2⟩:=hv
  obtain ⟨f,f1,f2,f3,h3⟩:=Number_eq hl hn
  have hnd:∀ c,r.head? = some c→digB c=false:=λc hc=>by
    rcases hr with rfl | ⟨q,rfl⟩
    · simp at hc
    · simp at hc;subst hc;rfl
  have hne:¬ ∃ c,r.head? = some c∧digB c=true:=by
    rintro ⟨c,h4,h5⟩
    rw [hnd c h4] at h5;cases h5
  have hdl:∀ u:Nat,u≤1000000→(Lib.decDigits u).length≤9:=λu hu=>by
    have := decD_len 8 u (by have : (10 : Nat) ^ (8 + 1) = 1000000000 := by decide
                             omega)
    omega
  by_cases hx:v<0
  · have e:=itoaL_neg (by omega) hx
    have hf:f=1:=f3.2 (by rw [e];rfl)
    subst hf
    have hdr:(itoaL v++r).drop 1=Lib.decDigits v.natAbs++r:=by rw [e];rfl
    have hnum:=numF_app (k:=9) (v:=0) (digB_dec (u:=v.natAbs)) (hdl _ (by omega)) hnd
    rw [hdr,hnum,foldD_dec _ _ (yk _),if_pos rfl] at h3
    have hvv:(-((v.natAbs:Nat):Int))=v:=by omega
    simp only [hvv] at h3
    rw [h3]
    have hlen:(itoaL v).length=1+(Lib.decDigits v.natAbs).length:=by rw [e];simp;omega
    have:=decD_ne v.natAbs
    have hp:0<(Lib.decDigits v.natAbs).length:=List.length_pos_iff.2 this
    unfold finN
    rw [if_neg,hlen]
    rw [← hlen]
    simp only [not_or,Decidable.not_not]
    refine ⟨by omega,by rw [List.take_left],?_⟩
    rw [List.drop_left];exact hne
  · have e:=itoaL_pos (by omega) (show 0≤v by omega)
    have hne2:=decD_ne v.toNat
    obtain ⟨c,l,hcl⟩:=List.exists_cons_of_ne_nil hne2
    have hf:f=0:=by
      by_cases h1f:f=1
      · have h5:=f3.1 h1f
        rw [e,hcl] at h5
        simp at h5
        have:=decD_mem _ _ (yk v.toNat) c (by rw [hcl];simp)
        rw [h5] at this
        exact absurd this (by decide)
      · omega
    subst hf
    have hnum:=numF_app (k:=9) (v:=0) (digB_dec (u:=v.toNat)) (hdl _ (by omega)) hnd
    rw [List.drop_zero,e,hnum,foldD_dec _ _ (yk _),if_neg (by decide),uk] at h3
    have hvv:((v.toNat:Nat):Int)=v:=by omega
    simp only [hvv] at h3
    rw [← e] at h3
    rw [h3]
    have hp:0<(itoaL v).length:=by rw [e];exact List.length_pos_iff.2 hne2
    unfold finN
    rw [if_neg]
    simp only [not_or,Decidable.not_not]
    refine ⟨by omega,by rw [List.take_left],?_⟩
    rw [List.drop_left];exact hne
section
variable {n:Nat} (hn:1000000≤n)
include hn
theorem nums_1:∀ (N f:Nat) (b:List Int) (x:List UInt8),x.length≤N→N<f→b.length+N≤100000→∃ l ok,loopF (ref24_Numbers.l1 n) f (b,x)=some (l,ok)∧(ok=true→∃ k,l=b++k∧x=spaced k∧∀ v∈k,sm6 v)
 | N,0,b,x,_,h,_=>by omega
 | N,f+1,b,[],hx,hf,hb=>by
  rw [loopF_s]
  exact ⟨b,true,rfl,λ_=>⟨[],by simp,rfl,by simp⟩⟩
 | 0,f+1,b,c::x,hx,hf,hb=>by simp at hx
 | N+1,f+1,b,c::x,hx,hf,hb=>by
  have hxl:x.length≤N:=by simpa using hx
  have i0:sidx (c::x) 0=some ((c.toNat:Nat):Int):=by
   have:=sidx_nat (l:=c::x) (i:=0) (by simp)
   simpa using this
  have c1:cut (c::x) 1 ((c::x).length:Int)=some x:=by
   have:=cut_end (l:=c::x) (a:=1) (by simp);simpa using this
  rw [loopF_s]
  simp only [ref24_Numbers.l1]
  rw [if_pos (by simp),i0,ya]
  by_cases hc:c=32
  ·subst hc
   obtain ⟨v,k,h1,h2,h3⟩:=Number_1 (n:=n) (s:=x) (by omega) hn
   rw [if_neg (by simp),c1,ya,h1,ya]
   by_cases hcond:((((k:Int)==0)||(decide (v<(-1000000))))||(decide (1000000<v)))=true
   ·rw [if_pos hcond]
    exact ⟨[],false,rfl,by simp⟩
   ·rw [if_neg hcond]
    simp only [yr,beq_iff_eq,yd,not_or] at hcond
    obtain ⟨⟨k0,v0⟩,v1⟩:=hcond
    obtain ⟨e1,e2⟩:=h3 (by omega)
    have hcut:cut ((32:UInt8)::x) (add64 1 (k:Int)) (((32:UInt8)::x).length:Int)=some (x.drop k):=by
     have e:add64 1 (k:Int)=((1+k:Nat):Int):=by rw [show (1:Int)=((1:Nat):Int) from rfl,add64_nat (by omega)]
     rw [e,cut_end (by simp;omega),Nat.add_comm 1 k];rfl
    rw [app_some (by simp;omega),ya,hcut,ya]
    obtain ⟨l,ok,g1,g2⟩:=nums_1 N f (b++[v]) (x.drop k) (by rw [yO];omega) (by omega) (by simp;omega)
    refine ⟨l,ok,g1,λh=>?_⟩
    obtain ⟨q,q1,q2,q3⟩:=g2 h
    refine ⟨v::q,by rw [q1];simp,?_,λw hw=>?_⟩
    ·rw [spaced_cons,← q2,← e1]
    ·rcases yJ.1 hw with rfl | hw
     ·exact ⟨by omega,by omega⟩
     ·exact q3 w hw
  ·have hcn:c.toNat≠32:=λh=>hc (UInt8.toNat_inj.1 h)
   rw [if_pos (by simp only [bne_iff_ne,ne_eq];omega)]
   exact ⟨[],false,rfl,by simp⟩
theorem spaced_form:∀ k:List Int,spaced k=[]∨∃ q,spaced k=32::q
 | []=>Or.inl rfl
 | x::k=>Or.inr ⟨_,spaced_cons x k⟩
theorem nums_2:∀ (k:List Int) (f:Nat) (b:List Int),(∀ v∈k,sm6 v)→(spaced k).length≤100000→k.length<f→b.length+k.length≤100000→loopF (ref24_Numbers.l1 n) f (b,spaced k)=some (b++k,true)
 | k,0,b,_,_,h,_=>by omega
 | [],f+1,b,_,_,_,_=>by rw [loopF_s];simp [ref24_Numbers.l1,spaced_nil]
 | v::k,f+1,b,hk,hl,hf,hb=>by
  have hv:=hk v (by simp)
  rw [spaced_cons] at hl ⊢
  simp only [yT] at hl hb hf
  generalize hx:itoaL v++spaced k=x at hl ⊢
  have i0:sidx ((32:UInt8)::x) 0=some 32:=by
   have:=sidx_nat (l:=(32:UInt8)::x) (i:=0) (by simp)
   simpa using this
  have c1:cut ((32:UInt8)::x) 1 (((32:UInt8)::x).length:Int)=some x:=by
   have:=cut_end (l:=(32:UInt8)::x) (a:=1) (by simp);simpa using this
  have hnum:ref21_Number n x=some (v,((itoaL v).length:Int)):=by
   rw [← hx]
   exact Number_2 hv (spaced_form hn k) (by rw [hx];omega) hn
  have hne:itoaL v≠[]:=by obtain ⟨h1,h2⟩:=hv;exact itoaL_ne v (by omega) (by omega)
  have hpos:0<(itoaL v).length:=List.length_pos_iff.2 hne
  have hxl:x.length=(itoaL v).length+(spaced k).length:=by rw [← hx];simp
  have hcut:cut ((32:UInt8)::x) (add64 1 ((itoaL v).length:Int)) (((32:UInt8)::x).length:Int)=some (spaced k):=by
   have e:add64 1 ((itoaL v).length:Int)=((1+(itoaL v).length:Nat):Int):=by rw [show (1:Int)=((1:Nat):Int) from rfl,add64_nat (by omega)]
   rw [e,cut_end (by simp;omega),Nat.add_comm,List.drop_succ_cons,← hx,List.drop_left]
  rw [loopF_s]
  simp only [ref24_Numbers.l1]
  have hv2:=hv
  unfold sm6 at hv2
  rw [if_pos (by simp),i0,ya,if_neg (by simp),c1,ya,hnum,ya,if_neg (by simp only [yr,beq_iff_eq,yd];omega),app_some (by simp;omega),ya,hcut,ya,nums_2 k f (b++[v]) (λw hw=>hk w (by simp [hw])) (by omega) (by omega) (by simp;omega)]
  simp
theorem Numbers_1 {t w:List UInt8} (ht:t.length≤65536):∃ l ok,ref24_Numbers n t w=some (l,ok)∧(ok=true→t=w++spaced l∧∀ v∈l,sm6 v):=by
 unfold ref24_Numbers
 by_cases hlt:t.length<w.length
 ·rw [decide_eq_true (by omega:(t.length:Int)<(w.length:Int))]
  exact ⟨[],false,by simp [grd],by simp⟩
 ·have e0:cut t 0 (w.length:Int)=some (t.take w.length):=by
   have:=cut_nat (l:=t) (a:=0) (b:=w.length) (yw _) (by omega)
   simpa using this
  rw [decide_eq_false (by omega:¬ (t.length:Int)<(w.length:Int)),e0]
  simp only [yi,yt,grd,if_true,yh,ud]
  by_cases hp:t.take w.length=w
  ·rw [if_neg (by simp [hp]),cut_end (by omega),ya]
   obtain ⟨l,ok,h1,h2⟩:=nums_1 hn (t.drop w.length).length n [] (t.drop w.length) (yk _) (by rw [yO];omega) (by rw [yO];simp;omega)
   refine ⟨l,ok,h1,λh=>?_⟩
   obtain ⟨k,k1,k2,k3⟩:=h2 h
   rw [y9] at k1
   subst k1
   refine ⟨?_,k3⟩
   rw [← k2]
   have:=(ui w.length t).symm
   rw [hp] at this
   exact this
  ·rw [if_pos (by simp [hp])]
   exact ⟨[],false,rfl,by simp⟩
theorem Numbers_2 {w:List UInt8} {k:List Int} (hk:∀ v∈k,sm6 v) (hl:(w++spaced k).length≤65536):ref24_Numbers n (w++spaced k) w=some (k,true):=by
 have hsk:∀ k:List Int,k.length≤(spaced k).length:=by
  intro k
  induction k with
  | nil=>simp
  | cons x k ih=>rw [spaced_cons];simp;omega
 have h1:=hsk k
 have hlen:(w++spaced k).length=w.length+(spaced k).length:=by simp
 have e0:cut (w++spaced k) 0 (w.length:Int)=some w:=by
  have:=cut_nat (l:=w++spaced k) (a:=0) (b:=w.length) (yw _) (by omega)
  simpa using this
 unfold ref24_Numbers
 rw [decide_eq_false (by omega:¬ ((w++spaced k).length:Int)<(w.length:Int)),e0]
 simp only [yi,yt,grd,if_true,yh,ud]
 rw [if_neg (by simp),cut_end (by omega),ya,List.drop_left,nums_2 hn k n [] hk (by omega) (by omega) (by simp;omega)]
 rfl
theorem Read_1 {a b c:List UInt8} (ha:a.length≤65536) (hb:b.length≤65536) (hc:c.length≤65536):∃ o ok,ref24_Read n a b c=some (o,ok)∧(ok=true→a=lineA o∧b=lineB o∧c=lineC o∧SmallQ o):=by
 obtain ⟨l1,o1,e1,g1⟩:=Numbers_1 hn (w:=[97,99,116,105,111,110,115]) ha
 obtain ⟨l2,o2,e2,g2⟩:=Numbers_1 hn (w:=[116,97,114,103,101,116,32,99,111,110,115,116,114,97,105,110,116]) hb
 obtain ⟨l3,o3,e3,g3⟩:=Numbers_1 hn (w:=[116,97,114,103,101,116,32,104,111,108,100]) hb
 obtain ⟨l4,o4,e4,g4⟩:=Numbers_1 hn (w:=[115,116,97,116,101]) hc
 have main:∀ (h:Bool) (l:List Int) (ok:Bool),(ok=true→b=targetK++32::(kindW h++spaced l)∧∀ v∈l,sm6 v)→∃ o okk,((ref24_Numbers n c [115,116,97,116,101]).bind λx34_8=>
  if (((((!o1)||(!ok))||(!x34_8.2))||((l1.length:Int) != 2))||((l.length:Int) != 1))=true then
   some ((⟨(⟨0,0,(⟨false,0⟩:Target)⟩:Question),[]⟩:Scenario),false)
  else
   (idx l1 0).bind λx59_13=>
   (idx l1 1).bind λx62_14=>
   (idx l 0).bind λx66_15=>
   some ((⟨(⟨x59_13,x62_14,(⟨h,x66_15⟩:Target)⟩:Question),x34_8.1⟩:Scenario),true))=some (o,okk)∧(okk=true→a=lineA o∧b=lineB o∧c=lineC o∧SmallQ o):=λh l ok hok=>by
  rw [e4,ya]
  by_cases hcond:(((((!o1)||(!ok))||(!o4))||((l1.length:Int) != 2))||((l.length:Int) != 1))=true
  ·rw [if_pos hcond]
   exact ⟨_,false,rfl,by simp⟩
  ·rw [if_neg hcond]
   simp only [yr,yz,bne_iff_ne,not_or,Bool.not_eq_false,Decidable.not_not] at hcond
   obtain ⟨⟨⟨⟨h1,h2⟩,h3⟩,h4⟩,h5⟩:=hcond
   obtain ⟨b1,b2⟩:=hok h2
   obtain ⟨a1,a2⟩:=g1 h1
   obtain ⟨c1,c2⟩:=g4 h3
   obtain ⟨e,f,rfl⟩:∃ e f,l1=[e,f]:=by
    match l1,h4 with
    | [],h4=>simp at h4
    | [_],h4=>simp at h4
    | [e,f],_=>exact ⟨e,f,rfl⟩
    | _::_::_::_,h4=>simp at h4;omega
   obtain ⟨i,rfl⟩:∃ i,l=[i]:=by
    match l,h5 with
    | [],h5=>simp at h5
    | [i],_=>exact ⟨i,rfl⟩
    | _::_::_,h5=>simp at h5;omega
   exact ⟨_,true,rfl,λ_=>⟨a1,b1,c1,a2 e (by simp),a2 f (by simp),b2 i (by simp),c2⟩⟩
 unfold ref24_Read
 rw [e1,ya,e2,ya]
 simp only [jn]
 cases ho:o2 with
 | true=>
  rw [if_neg (by simp)]
  exact main false l2 true λ_=>by rw [ho] at g2;exact g2 rfl
 | false=>
  rw [if_pos (by simp),e3,ya]
  exact main true l3 o3 λh=>g3 h
theorem Read_2 {s:Scenario} (hq:SmallQ s) (ha:(lineA s).length≤65536) (hb:(lineB s).length≤65536) (hc:(lineC s).length≤65536):ref24_Read n (lineA s) (lineB s) (lineC s)=some (s,true):=by
 have e1:ref24_Numbers n (lineA s) [97,99,116,105,111,110,115]=some ([s.question.e,s.question.f],true):=Numbers_2 hn (ef6 hq) ha
 have e4:ref24_Numbers n (lineC s) [115,116,97,116,101]=some (s.state,true):=Numbers_2 hn hq.st hc
 unfold ref24_Read
 rw [e1,ya]
 cases hh:s.question.target.hold with
 | false=>
  have hB:lineB s=[116,97,114,103,101,116,32,99,111,110,115,116,114,97,105,110,116]++spaced [s.question.target.index]:=by unfold lineB;rw [hh];rfl
  have e2:ref24_Numbers n (lineB s) [116,97,114,103,101,116,32,99,111,110,115,116,114,97,105,110,116]=some ([s.question.target.index],true):=by
   rw [hB];exact Numbers_2 hn (ix6 hq) (by rw [← hB];exact hb)
  rw [e2,ya]
  simp only [jn]
  rw [if_neg (by simp),e4,ya,if_neg (by simp)]
  obtain ⟨⟨x1,x2,⟨x3,x4⟩⟩,x5⟩:=s
  simp only at hh
  subst hh;rfl
 | true=>
  have hB:lineB s=[116,97,114,103,101,116,32,104,111,108,100]++spaced [s.question.target.index]:=by unfold lineB;rw [hh];rfl
  have e3:ref24_Numbers n (lineB s) [116,97,114,103,101,116,32,104,111,108,100]=some ([s.question.target.index],true):=by
   rw [hB];exact Numbers_2 hn (ix6 hq) (by rw [← hB];exact hb)
  obtain ⟨l2,o2,e2,g2⟩:=Numbers_1 hn (t:=lineB s) (w:=[116,97,114,103,101,116,32,99,111,110,115,116,114,97,105,110,116]) hb
  have ho:o2=false:=by
   cases ho:o2 with
   | false=>rfl
   | true=>
    have h1:=(g2 ho).1
    rw [hB] at h1
    simp at h1
  rw [e2,ya,ho]
  simp only [jn]
  rw [if_pos (by simp),e3,ya,e4,ya,if_neg (by simp)]
  obtain ⟨⟨x1,x2,⟨x3,x4⟩⟩,x5⟩:=s
  simp only at hh
  subst hh;rfl
end
def linesF:List (List UInt8)→List UInt8→List UInt8→List (List UInt8)×List UInt8
 | b,x,[]=>(b,x)
 | b,x,c::l=>if c=10 then linesF (b++[x]) [] l else linesF b (x++[c]) l
theorem linesF_1:∀ {t x:List UInt8} {b:List (List UInt8)},(linesF b x t).2=[]→∃ K,(linesF b x t).1=b++K∧x++t=(K.map (·++[10])).flatten
 | [],x,b,h=>⟨[],by simp [linesF],by simpa [linesF] using h⟩
 | c::t,x,b,h=>by
  rw [linesF] at h ⊢
  by_cases hc:c=10
  ·subst hc
   rw [if_pos rfl] at h ⊢
   obtain ⟨K,k1,k2⟩:=linesF_1 h
   rw [y9] at k2
   exact ⟨x::K,by rw [k1];simp,by simp [k2]⟩
  ·rw [if_neg hc] at h ⊢
   obtain ⟨K,k1,k2⟩:=linesF_1 h
   exact ⟨K,k1,by rw [← k2];simp⟩
theorem linesF_2:∀ {w:List UInt8} {l x:List UInt8} {b:List (List UInt8)},(10:UInt8)∉w→linesF b x (w++10::l)=linesF (b++[x++w]) [] l
 | [],l,x,b,_=>by simp [linesF]
 | c::w,l,x,b,h=>by
  rw [yX,linesF,if_neg (by rintro rfl;simp at h),linesF_2 (by intro h2;exact h (by simp [h2])),yW];rfl
theorem Lines_eq {n:Nat} {t:List UInt8} (ht:t.length≤65536) (hn:1000000≤n):ref21_Lines n t=some ((linesF [] [] t).1,decide ((linesF [] [] t).2=[])):=by
 have:=loopF_I (body:=ref21_Lines.l1 n t) (len:=t.length) (st:=λ(s:List (List UInt8)×List UInt8) i=>(s.1,s.2,(i:Int))) (g:=λi s=>some ((linesF s.1 s.2 (t.drop i)).1,decide ((linesF s.1 s.2 (t.drop i)).2=[]))) (λi s=>s.1.length≤i∧s.2.length≤i) (λrec i s hi hI hr=>?_) (λrec s _=>?_) n 0 ([],[]) (yw _) (by omega) ⟨yk _,yk _⟩
 ·simpa [ref21_Lines] using this
 ·obtain ⟨b,x⟩:=s
  simp only at hI
  rw [drop_cons hi]
  simp only [ref21_Lines.l1,lt_len hi,if_true,jn,sidx_nat hi,ya,add64_1 (i:=i) (by omega),linesF]
  by_cases hc:t[i]=10
  ·rw [if_pos (by rw [hc];rfl),if_pos hc,app_some (by simp;omega),ya]
   exact hr (b++[x],[]) ⟨by simp;omega,by simp⟩
  ·have hcn:t[i].toNat≠10:=λh=>hc (UInt8.toNat_inj.1 h)
   have hcut:cut t (i:Int) ((i+1:Nat):Int)=some [t[i]]:=by
    rw [cut_nat (by omega) (by omega),drop_cons hi,show i+1 - i=1 by omega];rfl
   rw [if_neg (by simp only [beq_iff_eq];omega),if_neg hc,hcut,ya,cat_some (by simp;omega),ya]
   exact hr (b,x++[t[i]]) ⟨by simp only;omega,by simp;omega⟩
 ·simp [ref21_Lines.l1,linesF]
section
variable {n:Nat} {m:Model} {t:List UInt8} (hn:4294967296≤n) (hS:SmallM m) (ht:t.length≤65536)
include hn hS ht
theorem rParse_1 {s:Scenario} (h:TextOf t s):ref24_Parse n m t=some (if suitP m s=true then (s,0) else (zeroS,1)):=by
 obtain ⟨rfl,hq⟩:=h
 have hL:linesF [] [] (textP s)=([lineA s,lineB s,lineC s],[]):=by
  unfold textP
  rw [linesF_2 (lineA_10 hq),linesF_2 (lineB_10 hq),linesF_2 (lineC_10 hq)];rfl
 have hlen:(textP s).length=(lineA s).length+(lineB s).length+(lineC s).length+3:=by simp [textP];omega
 have i0:idx [lineA s,lineB s,lineC s] 0=some (lineA s):=rfl
 have i1:idx [lineA s,lineB s,lineC s] 1=some (lineB s):=rfl
 have i2:idx [lineA s,lineB s,lineC s] 2=some (lineC s):=rfl
 unfold ref24_Parse
 rw [if_neg (by simp;omega),Lines_eq ht (by omega),ya,hL]
 simp only [decide_true,y7,ud]
 rw [if_neg (by simp),i0,ya,i1,ya,i2,ya,Read_2 (by omega) hq (by omega) (by omega) (by omega),ya,if_neg (by simp),rRight_eq hn hS,ya,sm6B_iff.2 hq.st,ut]
 cases suitP m s <;> rfl
theorem rParse_0 (h:∀ s,¬ TextOf t s):ref24_Parse n m t=some (zeroS,3):=by
 unfold ref24_Parse
 rw [if_neg (by simp;omega),Lines_eq ht (by omega),ya]
 generalize hL:linesF [] [] t=L
 obtain ⟨K,r⟩:=L
 simp only
 by_cases hc:(!decide (r=[])||((K.length:Int) != 3))=true
 ·rw [if_pos hc];rfl
 ·rw [if_neg hc]
  simp only [yr,yz,yD,bne_iff_ne,not_or,Decidable.not_not] at hc
  obtain ⟨rfl,hk⟩:=hc
  have h1:=linesF_1 (t:=t) (x:=[]) (b:=[]) (by rw [hL])
  rw [hL] at h1
  obtain ⟨K2,k1,k2⟩:=h1
  simp only [y9] at k1 k2
  subst k1
  match K,hk with
  | [],hk=>simp at hk
  | [_],hk=>simp at hk
  | [_,_],hk=>simp at hk
  | _::_::_::_::_,hk=>simp at hk;omega
  | [a,b,c],_=>
   have hlen:t.length=a.length+b.length+c.length+3:=by rw [k2];simp;omega
   obtain ⟨o,ok,e,g⟩:=Read_1 (n:=n) (by omega) (a:=a) (b:=b) (c:=c) (by omega) (by omega) (by omega)
   have i0:idx [a,b,c] 0=some a:=rfl
   have i1:idx [a,b,c] 1=some b:=rfl
   have i2:idx [a,b,c] 2=some c:=rfl
   rw [i0,ya,i1,ya,i2,ya,e,ya]
   cases ok with
   | false=>rfl
   | true=>
    obtain ⟨ga,gb,gc,gq⟩:=g rfl
    refine absurd ⟨?_,gq⟩ (h o)
    rw [k2,ga,gb,gc]
    simp [textP]
end
theorem Same_eq {n:Nat} {a b:Scenario} (hl:a.state.length≤100000) (hn:1000000≤n):ref24_Same n a b=some (decide (a=b)):=by
 have hI:ref17_Ints n a.state b.state=some (decide (a.state=b.state)):=by
  unfold ref17_Ints
  by_cases hlen:a.state.length=b.state.length
  ·rw [if_neg (by simp [hlen])]
   have:=loopF_g (body:=ref17_Ints.l1 n a.state b.state) (len:=a.state.length) (st:=λi=>(i:Int)) (g:=λi=>some (decide (a.state.drop i=b.state.drop i))) (λrec i hi hr=>?_) (λrec=>?_) n 0 (yw _) (by omega)
   ·simpa using this
   ·have hi2:i<b.state.length:=by omega
    rw [drop_cons hi,drop_cons hi2]
    simp only [ref17_Ints.l1,lt_len hi,if_true,idx_nat hi,idx_nat hi2,ya,add64_1 (i:=i) (by omega),List.cons.injEq]
    by_cases e:a.state[i]=b.state[i]
    ·rw [if_neg (by simp [e]),hr]
     congr 1
     exact decide_eq_decide.2 (by simp [e])
    ·rw [if_pos (by simp [e]),decide_eq_false (by simp [e])]
   ·have:b.state.drop a.state.length=[]:=List.drop_eq_nil_of_le (by omega)
    simp [ref17_Ints.l1,this]
  ·rw [if_pos (by simp;omega),decide_eq_false (by intro e;exact hlen (by rw [e]))]
 unfold ref24_Same
 rw [hI]
 simp only [yi,yt,grd,if_true,yh]
 congr 1
 rw [Bool.eq_iff_iff]
 simp only [yc,yd]
 obtain ⟨x1,x2⟩:=a
 obtain ⟨y1,y2⟩:=b
 simp
theorem Texts_law {m:Model} {s:Scenario} {t:List UInt8}:law24_ScenarioTexts 18446744073709551616 m s t=some true:=by
 unfold law24_ScenarioTexts
 simp only [awake_spec,ya,y7,ym,if_false,ref13_Few_eq big1]
 cases hf:fewP m with
 | false=>simp [grd]
 | true=>
  have hS:=fewP_small hf
  rw [small24_eq big1]
  simp only [y7,ud,yi,grd,if_true,yh]
  by_cases hg:((!(decide (s.state.length≤150)&&s.state.all λv=>decide (-1099511627776≤v)&&decide (v≤1099511627776)))||decide (1000<(t.length:Int)))=true
  ·rw [if_pos hg]
  ·rw [if_neg hg]
   simp only [yr,yd,not_or] at hg
   have ht:t.length≤65536:=by omega
   rw [sFormat_eq fuel_N hS,ya,rFormat_eq big2 hS,ya]
   by_cases hx:∃ x,TextOf t x
   ·obtain ⟨x,hx⟩:=hx
    have hlx:x.state.length≤100000:=by have:=text_long (s:=x);rw [← hx.1] at this;omega
    rw [sParse_1 fuel_N hS ht hx,ya,rParse_1 big2 hS ht hx,ya]
    have hl:(if suitP m x=true then (x,(0:Int)) else (zeroS,1)).1.state.length≤100000:=by split;exact hlx;simp [zeroS]
    rw [Same_eq hl big1]
    simp
   ·rw [sParse_0 fuel_N hS ht (λx h=>hx ⟨x,h⟩),ya,rParse_0 big2 hS ht (λx h=>hx ⟨x,h⟩),ya]
    rw [Same_eq (by simp [zeroS]) big1]
    simp
theorem closed16:joinedFacts Tryz.pinned.checked.prog 4 Tryz.f4 (OpenSpec.ofChange Rows.scenarioTextsSpec).bare Rows.scenarioTextsRow=true:=by
 unfold joinedFacts
 simp only [yc]
 repeat' apply And.intro
 all_goals as_aux_lemma=>kernel_rfl
section
open Go.ChangeShapes Go.WideShapes Go.ChangeAt Go.RowKit
theorem own:ownKnob Tryz.prog.godebug=none:=by kernel_rfl
theorem laidOut:laidOutB Tryz.prog=true:=by kernel_rfl
set_option maxRecDepth 100000 in
theorem contract16 (H:Type) (enc:TypeId×Value→H) (W:World) (base:Nat) (args:Array Value) (ds gs:List (DataW H)) (before:List MemPlace)
  (hval:∀ (j:Nat) t v,Tryz.f4.params[j]? = some t→args[j]? = some v→Value.okWide Tryz.prog W .any base t v)
  (hW:DataW.Whole enc Tryz.prog Tryz.f4.params.toList Rows.scenarioTextsSpec.vars false W args.toList ds gs before) (hL:laidMetH Tryz.prog Rows.scenarioTextsRow.laid W) (hS:W.ShapedOpen Tryz.prog) :
  Calls Tryz.prog 4 args W λe W'=>∃ v,e = .returned v∧Rows.scenarioTextsSpec.post enc Tryz.prog Tryz.f4 false true false false W args v W':=by
 have hW':=hW
 obtain ⟨p,q,hA0,hV,rfl,hfz,hnd⟩:=hW
 have hA:DataW.TrodAll enc Tryz.prog W 0 (λ_=>true) true Tryz.f4.params.toList args.toList ds p:=hA0
 rw [Tryz.params4] at hA hval
 obtain ⟨v0,vs0,d0,ds0,p0,q0,hargs,rfl,rfl,h0,r0⟩:=trodAll_cons hA
 obtain ⟨v1,vs1,d1,ds1,p1,q1,rfl,rfl,rfl,h1,r1⟩:=trodAll_cons r0
 obtain ⟨v2,vs2,d2,ds2,p2,q2,rfl,rfl,rfl,h2,r2⟩:=trodAll_cons r1
 obtain ⟨rfl,rfl,rfl⟩:=trodAll_nil r2
 obtain rfl:args = #[v0,v1,v2]:=by cases args;simp_all
 obtain ⟨rfl,rfl⟩:=trodVars_none hV
 obtain ⟨a0,k0⟩:=dModel.of_arg (hval 0 _ v0 rfl rfl) h0
 obtain ⟨a1,k1⟩:=dScen.of_arg (hval 1 _ v1 rfl rfl) h1
 obtain ⟨a2,k2⟩:=dStr.of_arg (hval 2 _ v2 rfl rfl) h2
 obtain ⟨E,hE⟩:=glob_ok hL hS
 have hrun:=(@law24_ScenarioTexts_ok E _ a0 a1 a2 true Texts_law).run Noneof W #[v0,v1,v2] (λ_ h=>h.elim) hE (by
  simp only [D.reps]
  exact ⟨v0,_,rfl,k0,v1,_,rfl,k1,v2,_,rfl,k2,rfl⟩)
 refine hrun.mono λe W' ⟨u,he,hf,hu⟩=>?_
 simp only [D.rep] at hu
 subst hu
 subst he
 refine ⟨_,rfl,post_kept hW' rfl rfl rfl laidOut (λt ht=>?_) hf (λ_ _ _=>trodAll_cons_mk (shut_bool Tryz.underlying4 _) trodAll_mk0)⟩
 rw [Tryz.params4] at ht
 have hall:([30,36,9].all λt=>Tryz.prog.readableRec t&&decide (t<Tryz.prog.types.size))=true:=by kernel_rfl
 have:=yu.1 hall t (by simpa using ht)
 simpa using this
theorem reads16 (os:Os) {H:Type} (enc:TypeId×Value→H):∃ places,DataW.whole enc Tryz.prog ((World.laidAll Tryz.prog os Rows.scenarioTextsRow.laid).forCall (λ_ _=>0) ⟨#[],#[.agg #[.slice none 0 0,.slice none 0 0,.slice none 0 0,.slice none 0 0,.slice none 0 0,.slice none 0 0,.slice none 0 0],.agg #[.int .i64 0,.int .i64 0,.bool false,.int .i64 0,.slice none 0 0],.string ⟨#[]⟩],[]⟩).memory Tryz.f4.params.toList Rows.scenarioTextsSpec.vars false
  (#[.agg #[.slice none 0 0,.slice none 0 0,.slice none 0 0,.slice none 0 0,.slice none 0 0,.slice none 0 0,.slice none 0 0],.agg #[.int .i64 0,.int .i64 0,.bool false,.int .i64 0,.slice none 0 0],.string ⟨#[]⟩]:Array Value).toList 8 =
  some ([.agg [.nil,.nil,.nil,.nil,.nil,.nil,.nil],.agg [.agg [.lit (.int .i64 0),.lit (.int .i64 0),.agg [.lit (.bool false),.lit (.int .i64 0)]],.nil],.lit (.string [])],[],places):=
 ⟨[],by kernel_rfl⟩
set_option maxRecDepth 100000 in
theorem lifted16 (os:Os) (started:os.Started) (H:Type) (enc:TypeId×Value→H) (F:Stop.Interp) :
  ReturnsInHanded {} Tryz.checked os 4 .any ((OpenSpec.ofChange Rows.scenarioTextsSpec).preRow enc Tryz.prog Tryz.f4 Rows.scenarioTextsRow.domain false Rows.scenarioTextsRow.laid) (((OpenSpec.ofChange Rows.scenarioTextsSpec).at F).post enc Tryz.prog Tryz.f4 false true false false):=by
 obtain ⟨places,hx⟩:=reads16 os enc
 refine returnsInHanded_of_row (C:=Tryz.checked) (s:=OpenSpec.ofChange Rows.scenarioTextsSpec) own started (by kernel_rfl) Tryz.func4
  (witness_row_atRef (enc:=enc) (C:=Tryz.checked) false (World.laidAll Tryz.prog os Rows.scenarioTextsRow.laid) _ (World.laidAll_os _ _ _) (by kernel_rfl) (by kernel_rfl) (by kernel_rfl)
   (OpenSpec.preRow_of_cond 8 hx (by kernel_rfl) (λk hk=>by cases hk) (by kernel_rfl) (laidMet_laidAll _ (by kernel_rfl) (by kernel_rfl)))) ?_
 intro W base args ds gs before hval hW _ _ _ hL hS _
 exact contract16 H enc W base args ds gs before hval hW hL hS
theorem said16:Rows.ScenarioTextsSaid:=
 OpenClaim.holds_of_cond 4 Tryz.f4 rfl rfl rfl rfl rfl rfl rfl ⟨rfl,rfl,rfl,rfl,rfl⟩ rfl rfl rfl rfl rfl (by kernel_rfl) Tryz.func4 closed16
  (of_decide_eq_true (by kernel_rfl)) (by unfold Func.isWrapper;first | (rw [if_pos (by decide +kernel)];kernel_rfl) | (rw [if_neg (by decide +kernel)];exact ⟨rfl,rfl⟩))
  (λos started H enc _ F=>by rw [OpenClaim.pre_eq_preRow];exact lifted16 os started H enc F)
theorem plain16 (f:FuncId) (fn:Func) (hf:Tryz.pinned.checked.prog.funcNamed Rows.scenarioTextsRow.func=some f) (hfn:Tryz.pinned.checked.prog.funcs[f]? = some fn) :
  true=Tryz.pinned.checked.prog.looks []∧∀ (j:Nat) t,fn.params[j]? = some t→Tryz.pinned.checked.prog.wantsStandIn t=false:=by
 obtain rfl:f=4:=Option.some.inj ((show Tryz.prog.funcNamed Rows.scenarioTextsRow.func=some 4 by kernel_rfl).symm.trans hf) |>.symm
 obtain rfl:fn=Tryz.f4:=(Option.some.inj (Tryz.func4.symm.trans hfn)).symm
 refine ⟨by kernel_rfl,λj t ht=>?_⟩
 rw [Tryz.params4] at ht
 have hall:([30,36,9].all λu=>!Tryz.prog.wantsStandIn u)=true:=by kernel_rfl
 have:=yu.1 hall t (by simpa using Array.mem_of_getElem? ht)
 exact (show Tryz.prog.wantsStandIn t=false by simpa using this)
theorem scenarioTexts_holds:Rows.ScenarioTextsCardSaid:=
 Claim7.holds_tied_plain_at .later [] _ _ _ _ said16 (λ_ h=>by cases h) (by kernel_rfl) (λ_ h=>by cases h) scenarioTexts_row_tie rfl ⟨rfl,rfl⟩ (by kernel_rfl) rfl plain16 (by kernel_rfl)
end
end Go.Proofs.YtbnhmfnagdgcmaaGreatDoor
