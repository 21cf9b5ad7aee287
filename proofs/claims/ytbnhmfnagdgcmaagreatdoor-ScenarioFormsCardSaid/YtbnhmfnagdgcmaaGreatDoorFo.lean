/- The law holds for every input. No condition. -/
import Derived.Test.YtbnhmfnagdgcmaaGreatDoorFo05
import Derived.Test.YtbnhmfnagdgcmaaGreatDoorCards
import Derived.Test.YtbnhmfnagdgcmaaGreatDoorTie
import Derived.JoinedCond
import Derived.Deep.DeepWitnessRowRef
import Derived.Lay
import Derived.ProofKit
set_option linter.unusedVariables false
set_option linter.unusedSectionVars false
set_option linter.unusedSimpArgs false
set_option maxHeartbeats 4000000
namespace Go.Proofs.YtbnhmfnagdgcmaaGreatDoor
open Go Go.RowKit
abbrev uA:=@_root_.List.getD_eq_getElem?_getD
def sumP (s:List Int):List Term→Int
 | []=>0
 | t::l=>t.factor*s.getD t.cell.toNat 0+sumP s l
def termOK (k:Nat) (t:Term):Prop:=0≤t.cell∧t.cell<(k:Int)∧-1000≤t.factor∧t.factor≤1000
theorem mul_bd {f x B:Int} (h1 : -1000≤f) (h2:f≤1000) (h3 : -B≤x) (h4:x≤B) : -(1000*B)≤f*x∧f*x≤1000*B:=by
 have hB:0≤B:=by omega
 have a1:f.natAbs≤1000:=by omega
 have a2:x.natAbs≤B.toNat:=by omega
 have a3:(f*x).natAbs≤1000*B.toNat:=by rw [Int.natAbs_mul];exact uv a1 a2
 omega
theorem getD_idx {s:List Int} {c:Int} (h0:0≤c) (h1:c<(s.length:Int)):idx s c=some (s.getD c.toNat 0):=by
 obtain ⟨k,rfl⟩:=yW h0;have:k<s.length:=by omega
 rw [idx_nat this];simp [List.getD,this]
theorem getD_mem {s:List Int} {c:Int} (h0:0≤c) (h1:c<(s.length:Int)):s.getD c.toNat 0∈s:=idx_mem (getD_idx h0 h1)
theorem band_low {x:Int} (h1 : -9223372036854775808≤x) (h2:x≤9223372036854775807):band .i64 x 4294967295=x % 4294967296:=by
 unfold band bitsBack;rw [BitVec.toNat_and,BitVec.toNat_ofInt,BitVec.toNat_ofInt];have e1:((4294967295:Int) % ((2 ^ IntKind.i64.bits:Nat):Int)).toNat=2 ^ 32 - 1:=by decide
 rw [e1,Nat.and_two_pow_sub_one_eq_mod];have e2:((2 ^ IntKind.i64.bits:Nat):Int)=18446744073709551616:=by decide
 rw [e2];have e3:(((x % 18446744073709551616).toNat % 2 ^ 32:Nat):Int)=x % 4294967296:=by omega
 rw [e3];exact w64_id (by omega) (by omega)
def anyR (p:Nat→Bool) (i:Nat):Nat→Bool
 | 0=>false
 | k+1=>p i||anyR p (i+1) k
theorem anyR_mono {p q}:∀ {k i:Nat},(∀ j,i≤j→j<i+k→p j=true→q j=true)→anyR p i k=true→anyR q i k=true
 | 0,_,_,h=>by simp [anyR] at h
 | k+1,i,hpq,h=>by
  simp only [anyR,yy] at h ⊢;rcases h with h | h
  ·exact .inl (hpq i (yn _) (by omega) h)
  ·exact .inr (anyR_mono (λj h1 h2=>hpq j (by omega) (by omega)) h)
def neP (E:Nat→Nat→Bool) (size:Nat):Nat→List Int→Nat→Nat→Bool
 | 0,_,first,last=>E last first
 | d+1,path,first,last=>anyR (λx=>!(decide ((x:Int)∈path)||!E last x)&&neP E size d (path++[(x:Int)]) first x) (first+1) (size - (first+1))
theorem neP_mono {E F size} (h:∀ a b,a<size→b<size→E a b=true→F a b=true):∀ (d:Nat) (path:List Int) (first last:Nat),first<size→last<size→neP E size d path first last=true→neP F size d path first last=true
 | 0,_,first,last,h1,h2,he=>h _ _ h2 h1 he
 | d+1,path,first,last,h1,h2,he=>by
  rw [neP] at he ⊢;refine anyR_mono (λj hj hk hp=>?_) he;simp only [yc,yA,y9,Bool.not_eq_false'] at hp ⊢;exact ⟨⟨hp.1.1,h _ _ h2 (by omega) hp.1.2⟩,neP_mono h d _ first j h1 (by omega) hp.2⟩
def edgeP (s:List Int) (c:Constraint) (a b:Nat):Bool:=decide (1≤s.getD (c.first+(a:Int)*c.size+(b:Int)).toNat 0)
structure GraphIn (c:Constraint) (s:List Int) (size:Nat):Prop where
 sz:c.size=(size:Int)
 pos:1≤size
 six:size≤6
 first:0≤c.first
 fits:c.first+(size*size:Nat)≤(s.length:Int)
 len:s.length≤1000
theorem edge_eq {n c s size a b} (h:GraphIn c s size) (ha:a<size) (hb:b<size):ref12_edge n c s a b=some (edgeP s c a b):=by
 have h6:=h.six;have hm:a*size+b<size*size:=by
  have:=yU size (show a+1≤size by omega);rw [uj] at this;omega
 have hf:=h.fits;have hl:=h.len;have h0:=h.first
 have hc:(a:Int)*c.size=((a*size:Nat):Int):=by rw [h.sz,ug]
 unfold ref12_edge edgeP;have e1:mul64 (a:Int) c.size=((a*size:Nat):Int):=by unfold mul64;rw [hc];exact w64_id (by omega) (by omega)
 have e2:add64 c.first ((a*size:Nat):Int)=c.first+((a*size:Nat):Int):=by unfold add64;exact w64_id (by omega) (by omega)
 have e3:add64 (c.first+((a*size:Nat):Int)) (b:Int)=c.first+((a*size:Nat):Int)+(b:Int):=by unfold add64;exact w64_id (by omega) (by omega)
 rw [e1,e2,e3,hc,getD_idx (by omega) (by omega)];rfl
theorem ref12_has_eq {n l x} (hl:l.length<1000000) (hn:1000000≤n):ref12_has n l x=some (decide (x∈l)):=by
 have:=loopF_g (body:=ref12_has.l1 n l x) (len:=l.length) (st:=λi=>(i:Int)) (g:=λi=>some (decide (x∈l.drop i))) (λrec i hi hr=>?_) (λrec=>?_) n 0 (yv _) (by omega)
 ·simpa [ref12_has] using this
 ·simp only [ref12_has.l1,lt_len hi,if_true,idx_nat hi,ya,add64_1 (i:=i) (by omega),hr];rw [drop_cons hi];by_cases h:l[i]=x
  ·rw [if_pos (by simpa using h)];simp only [yI,h,true_or,decide_true]
  ·have h':¬ x=l[i]:=λe=>h e.symm
   rw [if_neg (by simpa using h)];simp only [yI,h',false_or]
 ·simp [ref12_has.l1]
theorem paths_eq {c s size} (hG:GraphIn c s size):∀ (d m:Nat) (path:List Int) (first last:Nat),d≤6→1000000+d<m→1≤path.length→path.length+d≤10→idx path 0=some (first:Int)→idx path ((path.length - 1:Nat):Int)=some (last:Int)→first<size→last<size →
  ∃ L,ref12_paths m c s path ((path.length+d:Nat):Int)=some L∧(L≠[]↔neP (edgeP s c) size d path first last=true)∧L.length≤6 ^ d∧∀ p∈L,p≠[]
 | d,0,_,_,_,_,h,_,_,_,_,_,_=>by omega
 | 0,m+1,path,first,last,_,hm,hp,hp2,h0,hl,hf,hla=>by
  simp only [ref12_paths,ref12_paths.body];rw [sub64_1 (by omega) (by omega),hl,h0];simp only [ya,uo,uJ,if_true,edge_eq hG hla hf,neP];cases edgeP s c last first with
  | true=>exact ⟨[path],rfl,by simp,by simp,λp hp'=>by simp only [yL] at hp';subst hp';intro e;rw [e] at hp;simp at hp⟩
  | false=>exact ⟨[],rfl,by simp,by simp,λp hp'=>by simp at hp'⟩
 | d+1,m+1,path,first,last,hd6,hm,hp,hp2,h0,hl,hf,hla=>by
  have h6:=hG.six;simp only [ref12_paths,ref12_paths.body];rw [sub64_1 (by omega) (by omega),hl,h0];simp only [ya];rw [if_neg (by simp;omega),add64_1 (by omega),neP];have hpow:1≤6 ^ d:=Nat.one_le_pow _ _ (by decide);have hpow2:6 ^ d≤46656:=ue (uF (by decide) (show d≤6 by omega)) (by decide);have main:=loopF_M (body:=ref12_paths.l1 m (ref12_paths m) c s path ((path.length+(d+1):Nat):Int) (last:Int)) (λst=>size - st.2.toNat) (λst=>∃ i:Nat,st.2=(i:Int)∧i≤size∧st.1.length≤i*6 ^ d)
   (λst o=>∃ L,o=some (st.1++L)∧(L≠[]↔anyR (λx=>!(decide ((x:Int)∈path)||!edgeP s c last x)&&neP (edgeP s c) size d (path++[(x:Int)]) first x) st.2.toNat (size - st.2.toNat)=true)∧L.length≤(size - st.2.toNat)*6 ^ d∧∀ p∈L,p≠[]) (λrec st hI hr=>by
    obtain ⟨b,x⟩:=st;obtain ⟨i,rfl,hi,hb⟩:=hI;simp only [] at hb hr;simp only [ref12_paths.l1,jn,yp];by_cases hlt:i<size
    ·have hsz:decide ((i:Int)<c.size)=true:=by rw [hG.sz];exact lt_nat hlt
     have hb2:b.length≤300000:=by
      have:i*6 ^ d≤6*46656:=uv (by omega) hpow2;omega
     simp only [hsz,if_true,ref12_has_eq (show path.length<1000000 by omega) (show 1000000≤m by omega),edge_eq hG hla hlt,ya,yj,yw,grd,yf,add64_1 (i:=i) (by omega)];rw [show size - i=(size - (i+1))+1 by omega,anyR];have hnx:∀ b':List (List Int),b'.length≤(i+1)*6 ^ d→∃ L,rec (b',((i+1:Nat):Int))=some (b'++L)∧(L≠[]↔anyR (λx=>!(decide ((x:Int)∈path)||!edgeP s c last x)&&neP (edgeP s c) size d (path++[(x:Int)]) first x) (i+1) (size - (i+1))=true)∧L.length≤(size - (i+1))*6 ^ d∧∀ p∈L,p≠[]:=λb' hb'=>by
      have:=hr (b',((i+1:Nat):Int)) ⟨i+1,rfl,by omega,hb'⟩ (by simp only [yp];omega);simpa only [yp] using this
     by_cases hsk:(decide ((i:Int)∈path)||!edgeP s c last i)=true
     ·rw [if_pos hsk,hsk];obtain ⟨L,l1,l2,l3,l4⟩:=hnx b (by rw [uj];omega);refine ⟨L,l1,by simpa using l2,by rw [uj];omega,l4⟩
     ·rw [if_neg hsk];simp only [yE] at hsk;rw [hsk,app_some (by simp;omega),ya,app_some (by simp;omega),ya];simp only [yZ];obtain ⟨L',p1,p2,p3,p4⟩:=paths_eq hG d m (path++[(i:Int)]) first i (by omega) (by omega) (by simp) (by simp;omega) (by
       obtain ⟨y,hy⟩:∃ y,y=path:=⟨_,rfl⟩
       cases path with
       | nil=>simp at hp
       | cons z zs=>simpa [idx] using h0) (by
       have:(path++[(i:Int)]).length - 1=path.length:=by simp
       rw [this,idx_nat (by simp)];simp) hf hlt
      have e:((path++[(i:Int)]).length+d:Nat)=path.length+(d+1):=by simp;omega
      rw [e] at p1;rw [p1,ya,app_some (by omega),ya];obtain ⟨L,l1,l2,l3,l4⟩:=hnx (b++L') (by rw [yK,uj];omega);refine ⟨L'++L,by rw [l1,yQ],?_,by rw [yK,uj];omega,λp hp'=>?_⟩
      ·simp only [uq,yB,yy,← p2,← l2,ne_eq,List.append_eq_nil_iff];constructor
       ·intro h;by_cases hx:L'=[]
        ·exact .inr λhy=>h ⟨hx,hy⟩
        ·exact .inl hx
       ·rintro (h | h) ⟨h1,h2⟩
        ·exact h h1
        ·exact h h2
      ·rcases yG.1 hp' with h | h
       ·exact p4 p h
       ·exact l4 p h
    ·have hie:i=size:=by omega
     have hsz:decide ((i:Int)<c.size)=false:=by rw [hG.sz];exact ge_nat (by omega)
     simp only [hsz,yh,if_false];exact ⟨[],by simp,by simp [hie,anyR],by simp,λp hp'=>by simp at hp'⟩) m ([],((first+1:Nat):Int)) ⟨first+1,rfl,by omega,by simp⟩ (by simp;omega)
  obtain ⟨L,l1,l2,l3,l4⟩:=main;simp only [yp,yZ] at l1 l2 l3;refine ⟨L,l1,l2,?_,l4⟩;rw [Nat.pow_succ,Nat.mul_comm];exact ue l3 (yU _ (by omega))
def acycE (E:Nat→Nat→Bool) (size:Nat):Bool:=allR (λlen=>allR (λa=>!neP E size (len - 1) [(a:Int)] a a) 0 size) 1 size
theorem acycE_mono {E F size} (h:∀ a b,a<size→b<size→E a b=true→F a b=true) (hF:acycE F size=true):acycE E size=true:=by
 unfold acycE at hF ⊢;rw [allR_iff] at hF ⊢;intro len h1 h2;have:=hF len h1 h2;rw [allR_0] at this ⊢;intro a ha;have hn:=this a ha;cases hx:neP E size (len - 1) [(a:Int)] a a with
 | false=>rfl
 | true=>rw [neP_mono h _ _ _ _ ha ha hx] at hn;exact hn
theorem Cycle_eq {n c s size} (hk:c.kind=1) (hG:GraphIn c s size) (hn:4294967296≤n):∃ l,ref12_Cycle n c s=some l∧((l.length:Int)==0)=acycE (edgeP s c) size:=by
 have h6:=hG.six;have hpos:=hG.pos;have hfits:=hG.fits;have hlen:=hG.len;have h0:=hG.first
 have hsq:((size*size:Nat):Int)=(size:Int)*(size:Int):=ug _ _;have hin:ref12_inside n c (s.length:Int)=some true:=by
  unfold ref12_inside;have e1:mul64 c.size c.size=((size*size:Nat):Int):=by
   unfold mul64;have:size*size≤6*6:=uv h6 h6;rw [hG.sz,← hsq];exact w64_id (by omega) (by omega)
  have e2:sub64 (s.length:Int) ((size*size:Nat):Int)=(s.length:Int) - ((size*size:Nat):Int):=by
   have:size*size≤6*6:=uv h6 h6;unfold sub64;exact w64_id (by omega) (by omega)
  rw [if_pos (by simp [hk]),e1,e2,hG.sz];simp only [yg,yc,yd];omega
 unfold ref12_Cycle;rw [hin];simp only [hk,uO,yj,yw,grd,if_true,yf,y8,Bool.or_self,yh,if_false];have inner:∀ (len:Nat),1≤len→len≤6→∀ rec:Int→Option (List Int),(∃ l,loopF (ref12_Cycle.l2 n c s (len:Int) rec) n 0=some l∧l≠[]∧allR (λa=>!neP (edgeP s c) size (len - 1) [(a:Int)] a a) 0 size=false)∨(loopF (ref12_Cycle.l2 n c s (len:Int) rec) n 0=rec ((len+1:Nat):Int)∧allR (λa=>!neP (edgeP s c) size (len - 1) [(a:Int)] a a) 0 size=true):=λlen hl1 hl6 rec=>by
  have:=loopF_M (body:=ref12_Cycle.l2 n c s (len:Int) rec) (λst=>size - st.toNat) (λst=>∃ i:Nat,st=(i:Int)∧i≤size) (λst o=>(∃ l,o=some l∧l≠[]∧allR (λa=>!neP (edgeP s c) size (len - 1) [(a:Int)] a a) st.toNat (size - st.toNat)=false)∨(o=rec ((len+1:Nat):Int)∧allR (λa=>!neP (edgeP s c) size (len - 1) [(a:Int)] a a) st.toNat (size - st.toNat)=true)) (λrec' st hI hr=>by
   obtain ⟨i,rfl,hi⟩:=hI;simp only [ref12_Cycle.l2,yp];by_cases hlt:i<size
   ·have hsz:decide ((i:Int)<c.size)=true:=by rw [hG.sz];exact lt_nat hlt
    obtain ⟨L,p1,p2,p3,p4⟩:=paths_eq hG (len - 1) n [(i:Int)] i i (by omega) (by omega) (by simp) (by simp;omega) (by simp [idx]) (by simp [idx]) hlt hlt;have e:([(i:Int)].length+(len - 1):Nat)=len:=by simp;omega
    rw [e] at p1;simp only [hsz,if_true,p1,ya,add64_1 (i:=i) (by omega)];rw [show size - i=(size - (i+1))+1 by omega,allR];by_cases hL:L=[]
    ·subst hL;rw [if_neg (by simp)];have hne:neP (edgeP s c) size (len - 1) [(i:Int)] i i=false:=by
      cases hx:neP (edgeP s c) size (len - 1) [(i:Int)] i i with
      | false=>rfl
      | true=>exact absurd rfl (p2.2 hx)
     rw [hne];have:=hr ((i+1:Nat):Int) ⟨i+1,rfl,by omega⟩ (by simp only [yp];omega);simpa using this
    ·have hpl:0<L.length:=List.length_pos_iff.2 hL;rw [if_pos (by simpa using hpl)];have hne:=p2.1 hL;rw [hne];have hx:idx L 0=some L[0]:=idx_nat (l:=L) (i:=0) hpl;rw [hx];exact .inl ⟨L[0],rfl,p4 _ (ym hpl),by simp⟩
   ·have hie:i=size:=by omega
    have hsz:decide ((i:Int)<c.size)=false:=by rw [hG.sz];exact ge_nat (by omega)
    simp only [hsz,yh,if_false,add64_1 (i:=len) (by omega)];exact .inr ⟨trivial,by simp [hie,allR]⟩) n 0 ⟨0,rfl,by omega⟩ (by simp;omega)
  simpa using this
 have:=loopF_M (body:=ref12_Cycle.l1 n c s) (λst=>size+1 - st.toNat) (λst=>∃ i:Nat,st=(i:Int)∧1≤i∧i≤size+1) (λst o=>∃ l,o=some l∧((l.length:Int)==0)=allR (λlen=>allR (λa=>!neP (edgeP s c) size (len - 1) [(a:Int)] a a) 0 size) st.toNat (size+1 - st.toNat)) (λrec st hI hr=>by
  obtain ⟨i,rfl,hi1,hi⟩:=hI;simp only [ref12_Cycle.l1,yp];by_cases hlt:i≤size
  ·have hsz:decide ((i:Int)≤c.size)=true:=by rw [hG.sz];simpa using hlt
   rw [hsz,if_pos rfl,show size+1 - i=(size+1 - (i+1))+1 by omega,allR];rcases inner i hi1 (by omega) rec with ⟨l,q1,q2,q3⟩ | ⟨q1,q2⟩
   ·rw [q1,q3];exact ⟨l,rfl,by simpa using q2⟩
   ·rw [q1,q2];have:=hr ((i+1:Nat):Int) ⟨i+1,rfl,by omega,by omega⟩ (by simp only [yp];omega);simpa using this
  ·have hie:i=size+1:=by omega
   have hsz:decide ((i:Int)≤c.size)=false:=by rw [hG.sz];simp;omega
   rw [hsz,if_neg (by simp)];exact ⟨[],rfl,by simp [hie,allR]⟩) n 1 ⟨1,rfl,by omega,by omega⟩ (by simp;omega)
 simpa [acycE] using this
inductive ConIn (c:Constraint) (k:Nat):Prop
 | row:c.kind=0→(∀ t∈c.row.terms,termOK k t)→c.row.terms.length≤1000→(-4000000000≤c.row.bound∧c.row.bound≤4000000000)→ConIn c k
 | graph (size:Nat):c.kind=1→c.size=(size:Int)→1≤size→size≤6→0≤c.first→c.first+(size*size:Nat)≤(k:Int)→ConIn c k
def holdsP (c:Constraint) (s:List Int):Bool:=if c.kind=1 then acycE (edgeP s c) c.size.toNat else decide (sumP s c.row.terms≤c.row.bound)

def boxM (m:Model):List Range:=rangesP m.sorts true m.tables
theorem lay_fit {sizes} (hs:sizes.all sizeOK=true):∀ {l:List Table} {seen:List (List UInt8)} {a b:Int},layP sizes seen a b l=true→0≤a→a+216*(l.length:Int)≤1000000→∀ t∈l,strictP t.kind=true→a≤t.first∧t.first+widthP sizes t.columns 1≤a+((rangesP sizes true l).length:Int)
 | [],_,_,_,_,_,_,t,ht,_=>by simp at ht
 | x::l,seen,a,b,h,ha,hb,t,ht,hst=>by
  have htab:=layP_tab h x (by simp);simp only [tabP,yc,yd] at htab;have hw:=widthP_bound hs htab.1.2.2 htab.1.2.1;simp only [layP,yc] at h;have h2:=h.2;simp only [yN] at hb;have hcast:((l.length+1:Nat):Int)=(l.length:Int)+1:=by omega
  rw [hcast] at hb;by_cases hx:strictP x.kind=true
  ·rw [if_pos hx] at h2;simp only [yc,beq_iff_eq] at h2;have hadd:add64 a (widthP sizes x.columns 1)=a+widthP sizes x.columns 1:=by unfold add64;exact w64_id (by omega) (by omega)
   rw [hadd] at h2;have hlen:((rangesP sizes true (x::l)).length:Int)=widthP sizes x.columns 1+((rangesP sizes true l).length:Int):=by
    rw [rangesP,hx,if_pos (by rfl),yK,ul];omega
   rw [hlen];rcases yI.1 ht with rfl | ht
   ·omega
   ·have:=lay_fit hs h2.2 (by omega) (by omega) t ht hst;omega
  ·rw [if_neg hx] at h2;simp only [yc,beq_iff_eq] at h2;have hx':strictP x.kind=false:=by simpa using hx
   have hlen:(rangesP sizes true (x::l))=rangesP sizes true l:=by
    rw [rangesP,hx',if_neg (by decide)]
   rw [hlen];rcases yI.1 ht with rfl | ht
   ·rw [hst] at hx';cases hx'
   ·exact lay_fit hs h2.2 ha (by omega) t ht hst
theorem rowP_terms {K}:∀ {l:List Term} {last:Int},rowP K last l=true→-1≤last→∀ t∈l,termOK K t
 | [],_,_,_,t,ht=>by simp at ht
 | x::l,last,h,hl,t,ht=>by
  simp only [rowP,aroundP,yc,yd] at h;rcases yI.1 ht with rfl | ht
  ·exact ⟨by omega,h.1.1.1.2,by omega,by omega⟩
  ·exact rowP_terms h.2 (by omega) t ht
theorem row_in {K r} (h:rowOK K r=true) (hl:r.terms.length≤1000):ConIn ⟨0,0,r,0,0⟩ K:=by
 simp only [rowOK,aroundP,yc,yd] at h;exact .row rfl (rowP_terms h.1 (by decide)) hl (by simp only [];omega)
theorem con_in {m} (hS:SmallM m) (hV:ValidM m) {c} (hc:c∈m.constraints):ConIn c (boxM m).length:=by
 have hl:=hS.con c hc;rcases valid_con hV hc with h | h
 ·simp only [plainP,yc,beq_iff_eq] at h;have h2:=h.2;simp only [rowOK,aroundP,yc,yd] at h2;exact .row h.1.1.1 (rowP_terms h2.1 (by decide)) (by omega) (by omega)
 ·obtain ⟨l1,l2,l3,l4⟩:=layoutP_tab hV.lay;obtain ⟨hk,s1,s2⟩:=acy_size hV h;have hL:=hV.lay;simp only [layoutP,yc] at hL;simp only [acyP,graphP,yc,un,beq_iff_eq] at h;obtain ⟨-,-,t,ht,hg⟩:=h;simp only [graphT,yc,beq_iff_eq] at hg;obtain ⟨⟨g1,g2⟩,⟨g3,g4⟩,g5⟩:=hg;have hfit:=lay_fit l3 hL.2 (Int.le_refl _) (by omega) t ht (by simp [strictP,g1]);have hcols:=(l4 t ht).2.2.2.1;obtain ⟨⟨x,hx⟩,⟨y,hy⟩,-⟩:=graph_cols hcols g2;obtain ⟨p,q,hpq⟩:∃ p q,t.columns=[p,q]:=by
   match hcs:t.columns with
   | []=>rw [hcs] at g2;simp at g2
   | [_]=>rw [hcs] at g2;simp at g2
   | [p,q]=>exact ⟨p,q,rfl⟩
   | _::_::_::_=>rw [hcs] at g2;simp at g2;omega
  have hp0:idx t.columns 0=some p:=by rw [hpq];rfl
  have hq0:idx t.columns 1=some q:=by rw [hpq];rfl
  rw [hp0,hq0] at g3;rw [hp0] at g5;simp only [yf] at g3 g5;subst g3;have hcp:=yo.1 hcols p (by rw [hpq];simp);rw [idx_col hcp] at g5;simp only [yf] at g5;have hw:widthP m.sorts t.columns 1=c.size*c.size:=by
   rw [hpq];simp only [widthP,g5];have:c.size*c.size≤6*6:=Int.mul_le_mul s2 s2 (by omega) (by omega);have h0:0≤c.size*c.size:=Int.mul_nonneg (by omega) (by omega);unfold mul64;rw [Int.one_mul,w64_id (x:=c.size) (by omega) (by omega),w64_id (by omega) (by omega)]
  rw [hw] at hfit;have hsz:c.size=((c.size.toNat:Nat):Int):=by omega
  refine .graph c.size.toNat hk hsz (by omega) (by omega) (by omega) ?_;have e:((c.size.toNat*c.size.toNat:Nat):Int)=c.size*c.size:=by rw [ug,← hsz]
  rw [e];unfold boxM;omega
def plusP (s:List Int) (d:List Change):List Int:=(List.range s.length).map λi=>s.getD i 0+addedP d (i:Int)
theorem plus_len (s d):(plusP s d).length=s.length:=by simp [plusP]
theorem plus_get {s d c} (h0:0≤c) (h1:c<(s.length:Int)):(plusP s d).getD c.toNat 0=s.getD c.toNat 0+addedP d c:=by
 obtain ⟨k,rfl⟩:=yW h0;have hk:k<s.length:=by omega
 simp [plusP,List.getD,hk]
def smallD (d:List Change):Prop:=∀ x∈d,-1000000000≤x.add∧x.add≤1000000000
theorem added_small {d} (h:smallD d) (c) : -1000000000≤addedP d c∧addedP d c≤1000000000:=by
 induction d with
 | nil=>simp [addedP]
 | cons x l ih=>
  simp only [addedP];split
  ·exact h x (by simp)
  ·exact ih λy hy=>h y (by simp [hy])
theorem plus_small {s d B} (hs:∀ x∈s,-B≤x∧x≤B) (hd:smallD d):∀ x∈plusP s d,-(B+1000000000)≤x∧x≤B+1000000000:=by
 intro x hx;simp only [plusP,yV,yS] at hx;obtain ⟨i,hi,rfl⟩:=hx;have h1:=hs s[i] (ym hi);have h2:=added_small hd (i:Int);have:s.getD i 0=s[i]:=by simp [List.getD,hi]
 omega
theorem ref16_Cells_eq {n m t} (hc:t.columns.all (colOK m.sorts)=true) (hl:t.columns.length≤1000) (hn:1000000≤n):ref16_Cells n m t=some (widthP m.sorts t.columns 1):=by
 have:=loopF_g (body:=ref16_Cells.l1 n m t) (len:=t.columns.length) (st:=λi=>(widthP m.sorts (t.columns.take i) 1,(i:Int))) (g:=λ_=>some (widthP m.sorts t.columns 1)) (λrec i hi hr=>?_) (λrec=>?_) n 0 (yv _) (by omega)
 ·simpa [ref16_Cells,widthP] using this
 ·rw [yC hi,widthP_append] at hr;simp only [widthP] at hr;simp only [ref16_Cells.l1,lt_len hi,if_true,idx_nat hi,ya,idx_col (yo.1 hc _ (ym hi)),add64_1 (i:=i) (by omega),hr]
 ·simp [ref16_Cells.l1]
theorem ref16_Total_eq {n m} (hL:layoutP m.sorts m.tables=true) (hn:1000000≤n):ref16_Total n m=some ((boxM m).length:Int):=by
 obtain ⟨l1,l2,l3,l4⟩:=layoutP_tab hL;unfold ref16_Total;have:=loopF_g (body:=ref16_Total.l1 n m) (len:=m.tables.length) (st:=λi=>(((rangesP m.sorts true (m.tables.take i)).length:Int),(i:Int))) (g:=λ_=>some ((boxM m).length:Int)) (λrec i hi hr=>?_) (λrec=>?_) n 0 (yv _) (by omega)
 ·simpa [rangesP] using this
 ·obtain ⟨-,-,c1,c2,c3,c4⟩:=l4 _ (ym hi);have hlen:=rangesP_len (sizes:=m.sorts) (s:=true) (l:=m.tables.take i) λx hx=>(l4 x (List.mem_of_mem_take hx)).2.2.2.2
  simp only [yO] at hlen;rw [rangesP_snoc hi] at hr;have hcell:=ref16_Cells_eq (n:=n) (m:=m) (t:=m.tables[i]) c2 (by omega) hn;simp only [ref16_Total.l1,jn,lt_len hi,if_true,idx_nat hi,ya,ref16_Strict,hcell,add64_1 (i:=i) (by omega)];by_cases hst:(m.tables[i].kind==0||m.tables[i].kind==1)=true
  ·have hst':(strictP m.tables[i].kind==true)=true:=by simpa [strictP] using hst
   rw [if_pos hst'] at hr;rw [if_pos hst];have e:add64 ((rangesP m.sorts true (m.tables.take i)).length:Int) (widthP m.sorts m.tables[i].columns 1)=((rangesP m.sorts true (m.tables.take i)++List.replicate (widthP m.sorts m.tables[i].columns 1).toNat m.tables[i].range).length:Int):=by
    unfold add64;rw [w64_id (by omega) (by omega),yK,ul];omega
   rw [e];exact hr
  ·have hst':¬ (strictP m.tables[i].kind==true)=true:=by simpa [strictP] using hst
   rw [if_neg hst'] at hr;rw [if_neg hst];exact hr
 ·simp [ref16_Total.l1,boxM]
def possP (m:Model) (e:Effect) (s:List Int):Bool:=m.constraints.all (λc=>holdsP c s&&holdsP c (plusP s e.delta))&&e.hold.all λr=>holdsP ⟨0,0,r,0,0⟩ s
structure StateOK (m:Model) (s:List Int):Prop where
 len:s.length=(boxM m).length
 small:∀ x∈s,-9999≤x∧x≤9999
theorem act_delta {m} (hV:ValidM m) {a} (ha:a∈m.actions):smallD a.effect.delta∧∀ r∈a.effect.hold,rowOK (boxM m).length r=true:=by
 have h:=(valid_act hV ha).1;simp only [effP,yc,yo] at h;obtain ⟨p1,-⟩:=deltaP_spec _ _ h.1;exact ⟨λx hx=>by have:=p1 x hx;omega,h.2.2.2⟩

theorem loopF_app {γ S R:Type} {body:(S→Option R)→S→Option R} {k n:Nat} {st:List γ→Nat→S} (g:Nat→List γ) (fin:List γ→Option R) (B:Nat) (b0:List γ) (hB:∀ i,i<k→(g i).length≤B)
  (step:∀ rec (b:List γ) i,i<k→b.length≤b0.length+i*B→body rec (st b i)=rec (st (b++g i) (i+1))) (done:∀ rec (b:List γ),b.length≤b0.length+k*B→body rec (st b k)=fin b) (hn:k<n) :
  loopF body n (st b0 0)=fin (b0++(List.range k).flatMap g):=by
 have:=loopF_I (σ:=List γ) (body:=body) (len:=k) (st:=st) (g:=λi b=>fin (b++(List.range' i (k - i)).flatMap g)) (λi b=>b.length≤b0.length+i*B) (λrec i b hi hI hr=>?_) (λrec b hI=>?_) n 0 b0 (yv _) (by omega) (by simp)
 ·simpa [List.range_eq_range'] using this
 ·rw [step rec b i hi hI,hr _ (by rw [yK];have:=hB i hi;rw [uj];omega)];have:List.range' i (k - i)=i::List.range' (i+1) (k - (i+1)):=by rw [show k - i=(k - (i+1))+1 by omega,List.range'_succ]
  rw [this,uu,yQ]
 ·rw [done rec b hI];simp
theorem Index_Lint_eq {n l x} (hl:l.length<1000000) (hn:1000000≤n):∃ k,slices_Index_Lint_int n l x=some k∧(decide (0≤k)=decide (x∈l)):=by
 unfold slices_Index_Lint_int;have:=loopF_g (body:=slices_Index_Lint_int.l1 n l x) (len:=l.length) (st:=λi=>(i:Int)) (g:=λi=>some (ixP (λy=>decide (x=y)) (l.drop i) i)) (λrec i hi hr=>?_) (λrec=>?_) n 0 (yv _) (by omega)
 ·refine ⟨_,this,?_⟩;rw [List.drop_zero,ixP_any];rw [Bool.eq_iff_iff];simp [un]
 ·simp only [slices_Index_Lint_int.l1,lt_len hi,if_true,idx_nat hi,ya];rw [add64_1 (i:=i) (by omega),hr,drop_cons hi];by_cases e:x=l[i]
  ·simp [e,ixP]
  ·simp [e,ixP]
 ·simp only [slices_Index_Lint_int.l1,ge_len,yh,if_false];simp [ixP]
theorem Contains_Lint_eq {n l x} (hl:l.length<1000000) (hn:1000000≤n):slices_Contains_Lint_int n l x=some (decide (x∈l)):=by
 obtain ⟨k,h1,h2⟩:=Index_Lint_eq (x:=x) hl hn;unfold slices_Contains_Lint_int;rw [h1,ya,h2]
structure GraphOK (g:DGraph) (K:Nat):Prop where
 size:g.size=(K:Int)
 le:K≤6
 len:g.edges.length=K*K
def hasP (g:DGraph) (a b:Nat):Bool:=g.edges.getD (a*g.size.toNat+b) false
theorem pair_lt {K a b:Nat} (ha:a<K) (hb:b<K):a*K+b<K*K:=by
 have:(a+1)*K≤K*K:=yU _ ha;rw [uj] at this;omega
theorem has_eq {n:Nat} {g:DGraph} {K a b:Nat} (hg:GraphOK g K) (ha:a<K) (hb:b<K):digraph_graph_has n g (a:Int) (b:Int)=some (hasP g a b):=by
 have h1:=hg.le;have h2:=pair_lt ha hb;have h4:K*K≤36:=uv hg.le hg.le;have h3:add64 (mul64 (a:Int) g.size) (b:Int)=((a*K+b:Nat):Int):=by
  rw [hg.size];have e1:mul64 (a:Int) (K:Int)=((a*K:Nat):Int):=by
   unfold mul64;rw [w64_id (by rw [← ug];omega) (by rw [← ug];omega)];simp
  rw [e1,add64_nat (by omega)]
 unfold digraph_graph_has;rw [h3,idx_nat (by rw [hg.len];exact h2),ya];simp only [hasP,hg.size,yp,uA];rw [yD (by rw [hg.len];exact h2)];rfl
theorem nodup_le:∀ {K:Nat} {l:List Int},l.Nodup→(∀ x∈l,0≤x∧x<(K:Int))→l.length≤K
 | 0,l,_,h=>by
  cases l with
  | nil=>simp
  | cons x l=>have:=h x (by simp);omega
 | K+1,l,hn,h=>by
  by_cases hm:(K:Int)∈l
  ·have h1:=nodup_le (K:=K) (hn.erase (K:Int)) λx hx=>by
    have:=(hn.mem_erase_iff).1 hx;have:=h x this.2;omega
   rw [List.length_erase_of_mem hm] at h1;omega
  ·have:=nodup_le (K:=K) hn λx hx=>by
    have h2:=h x hx;have:x≠(K:Int):=λe=>hm (e▸hx)
    omega
   omega
def lexP:List Int→List Int→Int
 | [],[]=>0
 | [],_::_=>-1
 | _::_,[]=>1
 | a::l,b::m=>if a<b then -1 else if b<a then 1 else lexP l m
theorem lex_neg:∀ (a b:List Int),lexP b a = -lexP a b
 | [],[]=>rfl
 | [],_::_=>rfl
 | _::_,[]=>rfl
 | a::l,b::m=>by
  have:=lex_neg l m;simp only [lexP];split <;> split <;> omega
theorem lex_zero:∀ {a b:List Int},lexP a b=0→a=b
 | [],[],_=>rfl
 | [],_::_,h=>by simp [lexP] at h
 | _::_,[],h=>by simp [lexP] at h
 | a::l,b::m,h=>by
  simp only [lexP] at h;split at h
  ·omega
  ·split at h
   ·omega
   ·rw [lex_zero h,show a=b by omega]
theorem lex_trans:∀ {a b c:List Int},lexP a b<0→lexP b c<0→lexP a c<0
 | [],[],c,h,_=>by simp [lexP] at h
 | [],_::_,[],_,h=>by simp [lexP] at h
 | [],_::_,_::_,_,_=>by simp [lexP]
 | _::_,[],_,h,_=>by simp [lexP] at h
 | _::_,_::_,[],_,h=>by simp [lexP] at h
 | a::l,b::m,c::k,h1,h2=>by
  simp only [lexP] at *;have ih:=@lex_trans l m k;by_cases e1:a<b
  ·by_cases e2:b<c
   ·rw [if_pos (by omega)];omega
   ·by_cases e3:c<b
    ·rw [if_neg e2,if_pos e3] at h2;omega
    ·rw [if_pos (by omega)];omega
  ·by_cases e1':b<a
   ·rw [if_neg e1,if_pos e1'] at h1;omega
   ·rw [if_neg e1,if_neg e1'] at h1;by_cases e2:b<c
    ·rw [if_pos (by omega)];omega
    ·by_cases e3:c<b
     ·rw [if_neg e2,if_pos e3] at h2;omega
     ·rw [if_neg e2,if_neg e3] at h2;rw [if_neg (by omega),if_neg (by omega)];exact ih h1 h2
def cmpI (a b:Int):Int:=if a<b then -1 else if b<a then 1 else 0
def cmpC (a b:List Int):Int:=if cmpI a.length b.length≠0 then cmpI a.length b.length else lexP a b
theorem cmpC_neg (a b):cmpC b a = -cmpC a b:=by
 have:=lex_neg a b;unfold cmpC cmpI;split <;> split <;> (try split) <;> (try split) <;> simp_all <;> omega
theorem cmpC_zero {a b} (h:cmpC a b=0):a=b:=by
 unfold cmpC at h;split at h
 ·rename_i hne;exact absurd h hne
 ·exact lex_zero h
theorem cmpC_trans {a b c} (h1:cmpC a b<0) (h2:cmpC b c<0):cmpC a c<0:=by
 have k:∀ (x y:List Int),cmpC x y<0↔(x.length<y.length∨(x.length=y.length∧lexP x y<0)):=by
  intro x y;unfold cmpC cmpI;by_cases e:(x.length:Int)<y.length
  ·simp [e];omega
  ·by_cases e2:(y.length:Int)<x.length
   ·simp [e,e2];omega
   ·simp [e,e2];omega
 rw [k] at *;rcases h1 with h1 | ⟨h1,h1'⟩ <;> rcases h2 with h2 | ⟨h2,h2'⟩
 ·left;omega
 ·left;omega
 ·left;omega
 ·exact .inr ⟨by omega,lex_trans h1' h2'⟩
theorem cmpC_ntrans {a b c} (h1:¬ cmpC a b<0) (h2:¬ cmpC b c<0):¬ cmpC a c<0:=by
 intro h;have n1:=cmpC_neg a b;have n2:=cmpC_neg b c;by_cases e1:cmpC a b=0
 ·rw [cmpC_zero e1] at h;exact h2 h
 ·by_cases e2:cmpC b c=0
  ·rw [← cmpC_zero e2] at h;exact h1 h
  ·have:=cmpC_trans (a:=c) (b:=b) (c:=a) (by omega) (by omega);have n3:=cmpC_neg a c;omega
theorem Compare_int_eq {n} (a b):cmp_Compare_int n a b=some (cmpI a b):=by
 unfold cmp_Compare_int cmp_isNaN_int cmpI;simp;split <;> (try split) <;> rfl
theorem Compare_L_eq {n a b} (ha:a.length<1000000) (hn:1000000≤n):slices_Compare_Lint_int n a b=some (lexP a b):=by
 unfold slices_Compare_Lint_int;have:=loopF_I (σ:=Unit) (body:=slices_Compare_Lint_int.l1 n a b) (len:=a.length) (st:=λ_ i=>(i:Int)) (g:=λi _=>some (lexP (a.drop i) (b.drop i))) (λi _=>i≤b.length) (λrec i s hi hI hr=>?_) (λrec s hI=>?_) n 0 () (yv _) (by omega) (yv _)
 ·simpa using this
 ·simp only [slices_Compare_Lint_int.l1,lt_len hi,if_true,idx_nat hi,ya];by_cases hb:b.length≤i
  ·have e:b.drop i=[]:=List.drop_eq_nil_of_le hb;rw [if_pos (by simp;omega),e,drop_cons hi];rfl
  ·rw [if_neg (by simp;omega),idx_nat (show i<b.length by omega),ya,Compare_int_eq,ya,add64_1 (by omega),hr () (by omega),drop_cons hi,drop_cons (show i<b.length by omega)];simp only [lexP,cmpI];split
   ·simp
   ·split
    ·simp
    ·simp
 ·simp only [slices_Compare_Lint_int.l1,ge_len,yh,if_false];rw [List.drop_length];by_cases hb:a.length<b.length
  ·rw [if_pos (by simp;omega),drop_cons hb];rfl
  ·rw [if_neg (by simp;omega),List.drop_eq_nil_of_le (by omega)];rfl
theorem Or_eq {n} (x y) (hn:1000000≤n):cmp_Or_int n [x,y]=some (if x≠0 then x else y):=by
 unfold cmp_Or_int;rw [loopF_1 (by omega)];have e0:idx [x,y] 0=some x:=rfl;have e1:idx [x,y] 1=some y:=rfl;simp only [cmp_Or_int.l1,e0,ya,yN,uw];rw [if_pos (by simp)];by_cases hx:x=0
 ·rw [if_neg (by simp [hx]),show add64 0 1=1 from rfl,loopF_1 (by omega)];simp only [cmp_Or_int.l1,e1,ya,yN,uw];rw [if_pos (by simp)];by_cases hy:y=0
  ·rw [if_neg (by simp [hy]),show add64 1 1=2 from rfl,loopF_1 (by omega)];simp [cmp_Or_int.l1,hx,hy]
  ·rw [if_pos (by simp [hy])];simp [hx]
 ·rw [if_pos (by simp [hx])];simp [hx]
theorem compare_eq {n a b} (ha:a.length<1000000) (hn:1000000≤n):digraph_compare n a b=some (cmpC a b):=by
 unfold digraph_compare;rw [Compare_int_eq,ya,Compare_L_eq ha hn,ya,Or_eq _ _ hn];rfl
theorem sortO_of {α:Type} {f:α→α→Option Int} {c:α→α→Int} {l:List α} (h1:∀ x∈l,∀ y∈l,f x y=some (c x y)) (irr:∀ x,¬ c x x<0) (tr:∀ x y z,c x y<0→c y z<0→c x z<0) (nt:∀ x y z,¬ c x y<0→¬ c y z<0→¬ c x z<0) (hl:l.length<4611686018427387904) :
  sortO f l=some (sortF (λx y=>(f x y).getD 0) l)∧swoB (λx y=>(f x y).getD 0) l=true:=by
 have hs:swoB (λx y=>(f x y).getD 0) l=true:=by
  unfold swoB;rw [yo];intro x hx;rw [yc,yo];refine ⟨by simpa [h1 x hx x hx] using irr x,λy hy=>?_⟩;rw [yo];intro z hz;simp only [h1 x hx y hy,h1 y hy z hz,h1 x hx z hz,yf,yc,yy,yA,uk,yd,yF];have a1:=tr x y z;have a2:=nt x y z;constructor
  ·by_cases p:c x y<0
   ·by_cases q:c y z<0
    ·exact .inr (a1 p q)
    ·exact .inl (.inr q)
   ·exact .inl (.inl p)
  ·by_cases p:c x y<0
   ·exact .inl (.inl p)
   ·by_cases q:c y z<0
    ·exact .inl (.inr q)
    ·exact .inr (a2 p q)
 refine ⟨?_,hs⟩;unfold sortO;rw [if_pos];simp only [yc,yo,yd];exact ⟨⟨λx hx y hy=>by rw [h1 x hx y hy];rfl,hs⟩,hl⟩

def shortR (R:List Row):Prop:=R.length<1000000∧∀ r∈R,r.terms.length<1000000
structure SysOK (R:List Row) (G:List Graph) (cs:List (List Row)):Prop where
 rows:shortR R
 graphs:G.length<1000000∧∀ g∈G,g.least.length<1000000
 cases:cs.length<1000000∧∀ rows∈cs,shortR rows
structure ConOK (K:Nat) (c:Constraint):Prop where
 kind:c.kind=0∨c.kind=1
 len:c.row.terms.length≤1000
 sz:c.kind=1→∃ s:Nat,c.size=(s:Int)∧1≤s∧s≤6∧0≤c.first∧c.first+((s*s:Nat):Int)≤(K:Int)
structure ActOK (a:Action):Prop where
 delta:a.effect.delta.length≤20
 hold:a.effect.hold.length≤10
 terms:∀ r∈a.effect.hold,r.terms.length≤1000

def badR (m:Model) (x:Int):Bool:=(decide (x<0)||decide ((m.constraints.length:Int)≤x))||(((idx m.constraints x).getD default).kind != 0)
inductive Weaker:List Row→List Row→Prop
 | nil:Weaker [] []
 | cons {r s:Row} {R S:List Row}:r.terms=s.terms→r.bound≤s.bound→Weaker R S→Weaker (r::R) (s::S)


section
variable (E:Nat→Nat→Bool) (K:Nat)
def fstN (l:List Int):Nat:=(l.headD 0).toNat
def lstN (l:List Int):Nat:=(l.getLastD 0).toNat
def closeB (l:List Int):Bool:=E (lstN l) (fstN l)
def ext1 (l:List Int) (i:Nat):List (List Int):=if (E (lstN l) (fstN l+1+i)&&!decide (((fstN l+1+i:Nat):Int)∈l))=true then [l++[((fstN l+1+i:Nat):Int)]] else []
def ext (l:List Int):List (List Int):=(List.range (K - (fstN l+1))).flatMap (ext1 E l)
def dfs:Nat→List Int→List (List Int)
 | 0,_=>[]
 | d+1,l=>(if closeB E l=true then [l] else [])++(ext E K l).flatMap (dfs d)
def lev:Nat→List (List Int)→List (List Int)
 | 0,ls=>ls
 | r+1,ls=>lev r (ls.flatMap (ext E K))
theorem flatMap_app_perm {α β:Type} (f g:α→List β):∀ l:List α,(l.flatMap λx=>f x++g x).Perm (l.flatMap f++l.flatMap g)
 | []=>by simp
 | x::l=>by
  simp only [uu,yQ];refine .append_left _ ?_;exact ((flatMap_app_perm f g l).append_left _).trans (List.perm_append_comm_assoc _ _ _)
theorem flatMap_if {α:Type} (p):∀ l:List α,(l.flatMap λx=>if p x=true then [x] else [])=l.filter p
 | []=>rfl
 | x::l=>by rw [uu,flatMap_if p l,List.filter_cons];split <;> rfl
theorem dfs_perm:∀ (d:Nat) (ls:List (List Int)),(ls.flatMap (dfs E K d)).Perm ((List.range d).flatMap λr=>(lev E K r ls).filter (closeB E))
 | 0,ls=>by
  have:(ls.flatMap (dfs E K 0))=[]:=List.flatMap_eq_nil_iff.2 λ_ _=>rfl
  rw [this];exact .refl _
 | d+1,ls=>by
  have e:ls.flatMap (dfs E K (d+1))=ls.flatMap λl=>(if closeB E l=true then [l] else [])++(ext E K l).flatMap (dfs E K d):=rfl
  rw [e,List.range_succ_eq_map,uu,List.flatMap_map];refine (flatMap_app_perm _ _ ls).trans ?_;rw [flatMap_if];refine .append_left _ ?_;have:=dfs_perm d (ls.flatMap (ext E K));rw [List.flatMap_assoc] at this;exact this
theorem lex_app_same:∀ (l x y:List Int),lexP (l++x) (l++y)=lexP x y
 | [],_,_=>rfl
 | a::l,x,y=>by simp only [y6,lexP];rw [if_neg (by omega),if_neg (by omega)];exact lex_app_same l x y
theorem lex_app_lt:∀ {l m:List Int} (x y:List Int),l.length=m.length→lexP l m<0→lexP (l++x) (m++y)<0
 | [],[],_,_,_,h=>by simp [lexP] at h
 | [],_::_,_,_,h,_=>by simp at h
 | _::_,[],_,_,h,_=>by simp at h
 | a::l,b::m,x,y,hl,h=>by
  simp only [y6,lexP] at h ⊢;split
  ·omega
  ·rename_i h1;rw [if_neg h1] at h;split
   ·rename_i h2;rw [if_pos h2] at h;omega
   ·rename_i h2;rw [if_neg h2] at h;exact lex_app_lt x y (by simpa using hl) h
theorem mem_ext1 {l x i} (h:x∈ext1 E l i):E (lstN l) (fstN l+1+i)=true∧((fstN l+1+i:Nat):Int)∉l∧x=l++[((fstN l+1+i:Nat):Int)]:=by
 unfold ext1 at h;split at h
 ·rename_i hc;simp only [yc,yA,yF] at hc;exact ⟨hc.1,hc.2,by simpa using h⟩
 ·simp at h
theorem mem_ext {l x} (h:x∈ext E K l):∃ i,i<K - (fstN l+1)∧E (lstN l) (fstN l+1+i)=true∧((fstN l+1+i:Nat):Int)∉l∧x=l++[((fstN l+1+i:Nat):Int)]:=by
 obtain ⟨i,hi,hx⟩:=ut.1 h;exact ⟨i,yS.1 hi,mem_ext1 E hx⟩
theorem ext_pw (l):(ext E K l).Pairwise λx y=>lexP x y<0:=by
 unfold ext;rw [List.pairwise_flatMap];refine ⟨λi _=>?_,List.pairwise_lt_range.imp λ{i j} hij x hx y hy=>?_⟩
 ·unfold ext1;split <;> simp
 ·obtain ⟨-,-,rfl⟩:=mem_ext1 E hx;obtain ⟨-,-,rfl⟩:=mem_ext1 E hy;rw [lex_app_same];simp only [lexP];rw [if_pos (by omega)];omega
theorem lev_pw:∀ (r c:Nat) (ls:List (List Int)),(∀ l∈ls,l.length=c)→(ls.Pairwise λx y=>lexP x y<0)→(∀ l∈lev E K r ls,l.length=c+r)∧(lev E K r ls).Pairwise λx y=>lexP x y<0
 | 0,c,ls,h1,h2=>⟨h1,h2⟩
 | r+1,c,ls,h1,h2=>by
  have:=lev_pw r (c+1) (ls.flatMap (ext E K)) (λx hx=>?_) ?_
  ·exact ⟨λl hl=>by rw [this.1 l hl];omega,this.2⟩
  ·obtain ⟨l,hl,hx⟩:=ut.1 hx;obtain ⟨i,-,-,-,rfl⟩:=mem_ext E K hx;simp [h1 l hl]
  ·rw [List.pairwise_flatMap];refine ⟨λl _=>ext_pw E K l,?_⟩;refine List.Pairwise.imp_of_mem (λ{a b} ha hb hab x hx y hy=>?_) h2;obtain ⟨i,-,-,-,rfl⟩:=mem_ext E K hx;obtain ⟨j,-,-,-,rfl⟩:=mem_ext E K hy;exact lex_app_lt _ _ (by rw [h1 a ha,h1 b hb]) hab
theorem cmpC_lt (x y):cmpC x y<0↔(x.length<y.length∨(x.length=y.length∧lexP x y<0)):=by
 unfold cmpC cmpI;by_cases e:(x.length:Int)<y.length
 ·simp [e];omega
 ·by_cases e2:(y.length:Int)<x.length
  ·simp [e,e2];omega
  ·simp [e,e2];omega
theorem all_pw (d c ls) (h1:∀ l∈ls,l.length=c) (h2:ls.Pairwise λx y=>lexP x y<0):((List.range d).flatMap λr=>(lev E K r ls).filter (closeB E)).Pairwise λx y=>cmpC x y<0:=by
 rw [List.pairwise_flatMap];refine ⟨λr _=>?_,List.pairwise_lt_range.imp λ{i j} hij x hx y hy=>?_⟩
 ·have:=lev_pw E K r c ls h1 h2;refine List.Pairwise.imp_of_mem (λ{a b} ha hb hab=>?_) (this.2.filter (closeB E));rw [cmpC_lt];exact .inr ⟨by rw [this.1 a (List.mem_filter.1 ha).1,this.1 b (List.mem_filter.1 hb).1],hab⟩
 ·have hi:=(lev_pw E K i c ls h1 h2).1 x (List.mem_filter.1 hx).1;have hj:=(lev_pw E K j c ls h1 h2).1 y (List.mem_filter.1 hy).1;rw [cmpC_lt];exact .inl (by omega)
end
theorem perm_uniq {α:Type} {R:α→α→Prop} (hanti:∀ a b,R a b→R b a→a=b):∀ {l m:List α},l.Perm m→l.Pairwise R→m.Pairwise R→l=m
 | [],m,h,_,_=>by simpa using h.length_eq.symm
 | a::l,[],h,_,_=>by simpa using h.length_eq
 | a::l,b::m,h,h1,h2=>by
  have e:a=b:=by
   rw [uM] at h1 h2;have ha:=h.mem_iff.1 (uL (a:=a) (l:=l));have hb:=h.mem_iff.2 (uL (a:=b) (l:=m));rcases yI.1 ha with ha | ha
   ·exact ha
   ·rcases yI.1 hb with hb | hb
    ·exact hb.symm
    ·exact hanti _ _ (h1.1 b hb) (h2.1 a ha)
  subst e;rw [perm_uniq hanti ((List.perm_cons a).1 h) (uM.1 h1).2 (uM.1 h2).2]
def ones (K:Nat):List (List Int):=(List.range K).map λ(i:Nat)=>[(i:Int)]
theorem ones_pw (K):(∀ l∈ones K,l.length=1)∧(ones K).Pairwise λx y=>lexP x y<0:=by
 unfold ones;refine ⟨λl hl=>?_,?_⟩
 ·obtain ⟨i,-,rfl⟩:=yV.1 hl;rfl
 ·rw [List.pairwise_map];refine List.pairwise_lt_range.imp λ{i j} hij=>?_
  simp only [lexP];rw [if_pos (by omega)];omega
def cycP (E:Nat→Nat→Bool) (K:Nat):List (List Int):=(List.range K).flatMap λr=>(lev E K r (ones K)).filter (closeB E)
theorem flatMap_len {α β:Type} {f:α→List β} {B:Nat}:∀ {l:List α},(∀ x∈l,(f x).length≤B)→(l.flatMap f).length≤l.length*B
 | [],_=>by simp
 | x::l,h=>by
  have h1:=h x (by simp);have h2:=flatMap_len (l:=l) λy hy=>h y (by simp [hy])
  simp only [uu,yK,yN,uj];omega
theorem ext_len {E:Nat→Nat→Bool} {K:Nat} (hK:K≤6) (l:List Int):(ext E K l).length≤6:=by
 have:=flatMap_len (f:=ext1 E l) (B:=1) (l:=List.range (K - (fstN l+1))) λi _=>by unfold ext1;split <;> simp
 unfold ext;rw [List.length_range] at this;omega
theorem dfs_len {E:Nat→Nat→Bool} {K:Nat} (hK:K≤6):∀ (d:Nat) (l:List Int),(dfs E K d l).length≤7 ^ d
 | 0,_=>by simp [dfs]
 | d+1,l=>by
  have h1:=ext_len (E:=E) hK l;have h2:=flatMap_len (f:=dfs E K d) (B:=7 ^ d) (l:=ext E K l) λx _=>dfs_len hK d x
  have h3:(ext E K l).length*7 ^ d≤6*7 ^ d:=yU _ h1;have h4:1≤7 ^ d:=Nat.one_le_pow _ _ (by omega);simp only [dfs,yK,Nat.pow_succ];have h5:(if closeB E l=true then [l] else []).length≤1:=by split <;> simp
  omega
structure PathL (K:Nat) (l:List Int):Prop where
 nd:l.Nodup
 pos:1≤l.length
 mem:∀ x∈l,0≤x∧x<(K:Int)
theorem PathL.len {K l} (h:PathL K l):l.length≤K:=nodup_le h.nd h.mem
theorem PathL.snoc {K l} (h:PathL K l) {b} (hb:b<K) (hm:(b:Int)∉l):PathL K (l++[(b:Int)]):=by
 refine ⟨?_,by simp,λx hx=>?_⟩
 ·rw [List.nodup_append];exact ⟨h.nd,by simp,λa ha b' hb' e=>by simp at hb';subst hb';subst e;exact hm ha⟩
 ·rcases yG.1 hx with hx | hx
  ·exact h.mem x hx
  ·simp at hx;subst hx;omega
theorem PathL.fst {K l} (h:PathL K l):idx l 0=some ((fstN l:Nat):Int)∧fstN l<K:=by
 cases l with
 | nil=>have:=h.pos;simp at this
 | cons x t=>
  have:=h.mem x (by simp);have e:fstN (x::t)=x.toNat:=rfl;rw [e];refine ⟨?_,by omega⟩;have:idx (x::t) 0=some x:=rfl;rw [this];congr 1;omega
theorem PathL.lst {K l} (h:PathL K l) (h6:K≤6):idx l (sub64 (l.length:Int) 1)=some ((lstN l:Nat):Int)∧lstN l<K:=by
 have hp:=h.pos;have hK:=h.len;have hi:l.length - 1<l.length:=by omega
 have hm:=h.mem _ (ym hi);have e:l.getLastD 0=l[l.length - 1]:=by
  rw [List.getLastD_eq_getLast?,List.getLast?_eq_getElem?,yD hi];rfl
 have e2:lstN l=l[l.length - 1].toNat:=by unfold lstN;rw [e]
 refine ⟨?_,by omega⟩;rw [sub64_1 (by omega) (by omega),idx_nat hi,e2];congr 1;omega
theorem visit_eq {n:Nat} {g:DGraph} {K:Nat} (hg:GraphOK g K) (hn:1000000≤n):∀ (d k:Nat) (l:List Int) (out:List (List Int)),PathL K l→K - l.length=d→d<k→out.length≤1000000 - 7 ^ (d+1)→d≤5 →
  digraph_visit n g k l out=some (out++dfs (hasP g) K (d+1) l):=by
 intro d
 induction d using Nat.strongRecOn with
 | ind d ih=>
  intro k l out hp hd hk ho hd5;obtain ⟨k,rfl⟩:∃ k',k=k'+1:=⟨k - 1,by omega⟩
  have hK:=hg.le;have hl1:=hp.pos;have hl2:=hp.len;have hp7:7≤7 ^ (d+1):=Nat.le_self_pow (by omega) 7;obtain ⟨e2,hfK⟩:=hp.fst;obtain ⟨e1,hlK⟩:=hp.lst hK;have h7:7 ^ (d+1)=7*7 ^ d:=by rw [Nat.pow_succ];omega
  have hone:1≤7 ^ d:=Nat.one_le_pow _ _ (by omega);have h77:7 ^ (d+1)≤117649:=by
   have:7 ^ (d+1)≤7 ^ 6:=uF (by omega) (by omega);simpa using this
  simp only [digraph_visit,e1,e2,ya,has_eq hg hlK hfK];have loop:∀ out1:List (List Int),out1.length≤out.length+1→loopF (digraph_visit.l1 n g (digraph_visit n g k) l ((lstN l:Nat):Int)) n (add64 ((fstN l:Nat):Int) 1,out1)=some (out1++(ext (hasP g) K l).flatMap (dfs (hasP g) K d)):=by
   intro out1 ho1;rw [add64_1 (by omega)];have:=loopF_app (body:=digraph_visit.l1 n g (digraph_visit n g k) l ((lstN l:Nat):Int)) (k:=K - (fstN l+1)) (n:=n) (st:=λ(o:List (List Int)) i=>(((fstN l+1+i:Nat):Int),o)) (λi=>(ext1 (hasP g) l i).flatMap (dfs (hasP g) K d)) some (7 ^ d) out1
    (λi hi=>?_) (λrec o i hi hI=>?_) (λrec o hI=>?_) (by omega)
   ·simp only [uo] at this;rw [this];unfold ext;rw [List.flatMap_assoc]
   ·have h1:=flatMap_len (f:=dfs (hasP g) K d) (B:=7 ^ d) (l:=ext1 (hasP g) l i) λx _=>dfs_len hK d x
    have h2:(ext1 (hasP g) l i).length≤1:=by unfold ext1;split <;> simp
    have h3:(ext1 (hasP g) l i).length*7 ^ d≤1*7 ^ d:=yU _ h2;omega
   ·have hb:fstN l+1+i<K:=by omega
    have hlt:decide (((fstN l+1+i:Nat):Int)<g.size)=true:=by rw [hg.size];simp;omega
    have hnx:add64 ((fstN l+1+i:Nat):Int) 1=((fstN l+1+(i+1):Nat):Int):=by rw [add64_1 (by omega)];rfl
    simp only [digraph_visit.l1,hlt,if_true,has_eq hg hlK hb,ya,hnx];unfold ext1;by_cases hh:hasP g (lstN l) (fstN l+1+i)=true
    ·rw [if_pos hh,Contains_Lint_eq (by omega) hn,ya];by_cases hm:((fstN l+1+i:Nat):Int)∈l
     ·rw [if_pos (by simpa using hm),if_neg (by simp only [hm,decide_true,y8,Bool.and_false];simp)];simp
     ·rw [if_neg (by simpa using hm),app_some (by simp;omega),ya,yZ,app_some (by simp;omega),ya,if_pos (by simp only [hh,hm,decide_false,uq,uK])];have hp2:=hp.snoc hb hm;have hlen:=hp2.len;simp only [yK,yN,uw] at hlen;have hd1:1≤d:=by omega
      have h6:i*7 ^ d≤5*7 ^ d:=yU _ (by omega);have:=ih (d - 1) (by omega) k (l++[((fstN l+1+i:Nat):Int)]) o hp2 (by simp;omega) (by omega) (by rw [show d - 1+1=d by omega];omega) (by omega);rw [show d - 1+1=d by omega] at this;rw [this,ya];simp
    ·rw [if_neg hh,if_neg (by simp only [yE] at hh;simp [hh])];simp
   ·have hge:decide (((fstN l+1+(K - (fstN l+1)):Nat):Int)<g.size)=false:=by rw [hg.size];simp;omega
    simp only [digraph_visit.l1,hge,yh,if_false]
  have hcl:closeB (hasP g) l=hasP g (lstN l) (fstN l):=rfl;simp only [dfs,hcl];by_cases hh:hasP g (lstN l) (fstN l)=true
  ·rw [if_pos hh,if_pos hh,app_some (by simp;omega),ya,yZ,app_some (by simp;omega),ya,loop _ (by simp),yQ]
  ·rw [if_neg hh,if_neg hh,loop _ (by omega),yZ]
theorem cycles_eq {n g K} (hg:GraphOK g K) (hn:1000000≤n):loopF (digraph_cycles.l1 n g) n (0,[])=some ((ones K).flatMap (dfs (hasP g) K K)):=by
 have hK:=hg.le;have hd:7 ^ K≤117649:=by
  have:7 ^ K≤7 ^ 6:=uF (by omega) (by omega);simpa using this
 have:=loopF_app (body:=digraph_cycles.l1 n g) (k:=K) (n:=n) (st:=λ(o:List (List Int)) i=>((i:Int),o)) (λi=>dfs (hasP g) K K [(i:Int)]) some 117649 []
  (λi hi=>ue (dfs_len hK K _) hd) (λrec o i hi hI=>?_) (λrec o hI=>?_) (by omega)
 ·rw [ones,List.flatMap_map];simpa using this
 ·have hlt:decide ((i:Int)<g.size)=true:=by rw [hg.size];simp;omega
  have h5:i*117649≤5*117649:=yU _ (by omega);have hv:=visit_eq hg hn (K - 1) n [(i:Int)] o ⟨by simp,by simp,by simp;omega⟩ (by simp) (by omega) (by rw [show K - 1+1=K by omega];simp at hI;omega) (by omega);rw [show K - 1+1=K by omega] at hv;simp only [digraph_cycles.l1,hlt,if_true,hv,ya];rw [add64_1 (by omega)]
 ·have hge:decide ((K:Int)<g.size)=false:=by rw [hg.size];simp
  simp only [digraph_cycles.l1,hge,yh,if_false]
theorem mem_dfs {E K}:∀ (d:Nat) {l x:List Int},PathL K l→x∈dfs E K d l→PathL K x
 | 0,_,_,_,h=>by simp [dfs] at h
 | d+1,l,x,hp,h=>by
  simp only [dfs,yG,ut] at h;rcases h with h | ⟨y,hy,hx⟩
  ·split at h
   ·simp at h;subst h;exact hp
   ·simp at h
  ·obtain ⟨i,hi,-,hm,rfl⟩:=mem_ext E K hy;exact mem_dfs d (hp.snoc (by omega) hm) hx
theorem one_path {K i} (hi:i<K):PathL K [(i:Int)]:=⟨by simp,by simp,by simp;omega⟩
theorem digraph_Cycles_eq {n:Nat} {edges:List Bool} {K:Nat} (h1:1≤K) (h6:K≤6) (hl:edges.length=K*K) (hn:1000000≤n):digraph_Cycles n (K:Int) edges=some (cycP (hasP ⟨(K:Int),edges⟩) K):=by
 have hg:GraphOK ⟨(K:Int),edges⟩ K:=⟨rfl,h6,hl⟩
 have h4:K*K≤36:=uv h6 h6;have e:mul64 (K:Int) (K:Int)=((K*K:Nat):Int):=by
  unfold mul64;rw [w64_id (by rw [← ug];omega) (by rw [← ug];omega)];simp
 have hopen:digraph_open n (K:Int) edges=some (⟨(K:Int),edges⟩,true):=by
  unfold digraph_open;rw [e,hl];simp;omega
 have hd:7 ^ K≤117649:=by
  have:7 ^ K≤7 ^ 6:=uF (by omega) (by omega);simpa using this
 unfold digraph_Cycles;rw [hopen,ya,if_neg (by simp),cycles_eq hg hn,ya];have hmem:∀ x∈(ones K).flatMap (dfs (hasP ⟨(K:Int),edges⟩) K K),PathL K x:=λx hx=>by
  obtain ⟨l,hl,hx⟩:=ut.1 hx;obtain ⟨i,hi,rfl⟩:=yV.1 hl;exact mem_dfs K (one_path (yS.1 hi)) hx
 have hlen:((ones K).flatMap (dfs (hasP ⟨(K:Int),edges⟩) K K)).length≤6*117649:=by
  have:=flatMap_len (f:=dfs (hasP ⟨(K:Int),edges⟩) K K) (B:=117649) (l:=ones K) λx _=>ue (dfs_len h6 K x) hd
  have e:(ones K).length=K:=by simp [ones]
  rw [e] at this;exact ue this (yU _ h6)
 obtain ⟨s1,s2⟩:=sortO_of (f:=digraph_compare n) (c:=cmpC) (l:=(ones K).flatMap (dfs (hasP ⟨(K:Int),edges⟩) K K)) (λx hx y _=>compare_eq (by have:=(hmem x hx).len;omega) hn) (λx=>by have:=cmpC_neg x x;omega) (λ_ _ _=>cmpC_trans) (λ_ _ _=>cmpC_ntrans) (by omega);rw [s1];refine congrArg some ?_;have hp:=sortF_perm s2;have hs:=sortF_sorted s2;refine perm_uniq (R:=λx y=>¬ cmpC y x<0) (λa b h1 h2=>?_) (hp.trans (dfs_perm _ K K (ones K))) ?_ ?_
 ·have:=cmpC_neg a b;exact cmpC_zero (by omega)
 ·refine List.Pairwise.imp_of_mem (λ{a b} ha hb hab=>?_) hs;have ha':=hmem a (hp.mem_iff.1 ha);have hb':=hmem b (hp.mem_iff.1 hb);rw [compare_eq (by have:=hb'.len;omega) hn] at hab;exact hab
 ·refine (all_pw _ K K 1 (ones K) (ones_pw K).1 (ones_pw K).2).imp λ{a b} h=>?_
  have:=cmpC_neg a b;omega
theorem lev_path {E K}:∀ (r:Nat) {ls:List (List Int)},(∀ l∈ls,PathL K l)→∀ l∈lev E K r ls,PathL K l
 | 0,_,h=>h
 | r+1,ls,h=>lev_path r λx hx=>by
  obtain ⟨l,hl,hx⟩:=ut.1 hx;obtain ⟨i,hi,-,hm,rfl⟩:=mem_ext E K hx;exact (h l hl).snoc (by omega) hm
theorem ones_path {K}:∀ l∈ones K,PathL K l:=λl hl=>by
 obtain ⟨i,hi,rfl⟩:=yV.1 hl;exact one_path (yS.1 hi)
structure SameA (a:Action):Prop where
 add:∀ c,addP c a.effect.delta 0=addedP a.effect.delta c
 len:a.effect.delta.length≤20
section
variable {n:Nat} {c:Constraint} {a b:Action} {K:Nat} (ha:SameA a) (hb:SameA b) (h6:K≤6) (hn:1000000≤n)
include ha hb h6 hn
end


section
variable {E:Nat→Nat→Bool} {K:Nat}
theorem anyR_iff {p}:∀ {k i:Nat},anyR p i k=true↔∃ j,i≤j∧j<i+k∧p j=true
 | 0,i=>by simp [anyR];omega
 | k+1,i=>by
  simp only [anyR,yy,anyR_iff (k:=k) (i:=i+1)];constructor
  ·rintro (h | ⟨j,h1,h2,h3⟩)
   ·exact ⟨i,yn _,by omega,h⟩
   ·exact ⟨j,by omega,by omega,h3⟩
  ·rintro ⟨j,h1,h2,h3⟩;by_cases e:i=j
   ·subst e;exact .inl h3
   ·exact .inr ⟨j,by omega,by omega,h3⟩
theorem lev_flat:∀ (r:Nat) (ls:List (List Int)),lev E K r ls=ls.flatMap λl=>lev E K r [l]
 | 0,ls=>by simp [lev]
 | r+1,ls=>by
  have e:∀ l,lev E K (r+1) [l]=(ext E K l).flatMap λx=>lev E K r [x]:=λl=>by
   have:lev E K (r+1) [l]=lev E K r (ext E K l):=by simp [lev]
   rw [this,lev_flat r]
  simp only [e];rw [lev,lev_flat r,List.flatMap_assoc]
theorem fstN_snoc {l x} (h:l≠[]):fstN (l++[x])=fstN l:=by
 cases l with
 | nil=>exact absurd rfl h
 | cons a t=>rfl
theorem lstN_snoc {l:List Int} {x:Nat}:lstN (l++[(x:Int)])=x:=by simp [lstN]
theorem mem_ext_iff {l x}:x∈ext E K l↔∃ j,fstN l+1≤j∧j<K∧E (lstN l) j=true∧(j:Int)∉l∧x=l++[(j:Int)]:=by
 constructor
 ·intro h;obtain ⟨i,h1,h2,h3,h4⟩:=mem_ext E K h;exact ⟨fstN l+1+i,by omega,by omega,h2,h3,h4⟩
 ·rintro ⟨j,h1,h2,h3,h4,rfl⟩;refine ut.2 ⟨j - (fstN l+1),yS.2 (by omega),?_⟩;have e:fstN l+1+(j - (fstN l+1))=j:=by omega
  unfold ext1;rw [e,if_pos (by simp [h3,h4])];simp
theorem neP_lev:∀ (d:Nat) (path:List Int) (first last:Nat),path≠[]→fstN path=first→lstN path=last →
  (neP E K d path first last=true↔∃ x∈lev E K d [path],closeB E x=true)
 | 0,path,first,last,_,h1,h2=>by
  subst h1 h2;simp [neP,lev,closeB]
 | d+1,path,first,last,h0,h1,h2=>by
  subst h1 h2;have e:lev E K (d+1) [path]=lev E K d (ext E K path):=by simp [lev]
  rw [e,lev_flat,neP,anyR_iff];simp only [ut];constructor
  ·rintro ⟨j,j1,j2,j3⟩;simp only [yc,yA,y9,yF,Bool.not_eq_false'] at j3;obtain ⟨⟨j3,j4⟩,j5⟩:=j3;obtain ⟨x,x1,x2⟩:=(neP_lev d (path++[(j:Int)]) (fstN path) j (by simp) (fstN_snoc h0) lstN_snoc).1 j5;exact ⟨x,⟨_,mem_ext_iff.2 ⟨j,j1,by omega,j4,j3,rfl⟩,x1⟩,x2⟩
  ·rintro ⟨x,⟨y,y1,y2⟩,x2⟩;obtain ⟨j,j1,j2,j3,j4,rfl⟩:=mem_ext_iff.1 y1;refine ⟨j,j1,by omega,?_⟩;simp only [yc,yA,y9,yF,Bool.not_eq_false'];exact ⟨⟨j4,j3⟩,(neP_lev d (path++[(j:Int)]) (fstN path) j (by simp) (fstN_snoc h0) lstN_snoc).2 ⟨x,y2,x2⟩⟩
theorem mem_cycP {x}:x∈cycP E K↔∃ r,r<K∧x∈lev E K r (ones K)∧closeB E x=true:=by
 simp only [cycP,ut,yS,List.mem_filter]
theorem acycE_iff:acycE E K=true↔∀ x,x∉cycP E K:=by
 unfold acycE;rw [allR_iff];constructor
 ·intro h x hx;obtain ⟨r,r1,r2,r3⟩:=mem_cycP.1 hx;rw [lev_flat] at r2;obtain ⟨l,l1,l2⟩:=ut.1 r2;obtain ⟨a,a1,rfl⟩:=yV.1 l1;have:=allR_0.1 (h (r+1) (by omega) (by omega)) a (yS.1 a1);rw [Nat.add_sub_cancel,(neP_lev r [(a:Int)] a a (by simp) (by simp [fstN]) (by simp [lstN])).2 ⟨x,l2,r3⟩] at this;cases this
 ·intro h len h1 h2;refine allR_0.2 λa ha=>?_
  cases hn:neP E K (len - 1) [(a:Int)] a a with
  | false=>rfl
  | true=>
   obtain ⟨x,x1,x2⟩:=(neP_lev (len - 1) [(a:Int)] a a (by simp) (by simp [fstN]) (by simp [lstN])).1 hn;refine absurd (mem_cycP.2 ⟨len - 1,by omega,?_,x2⟩) (h x);rw [lev_flat];exact ut.2 ⟨_,yV.2 ⟨a,yS.2 ha,rfl⟩,x1⟩
theorem cycP_path {x} (h:x∈cycP E K):PathL K x:=by
 obtain ⟨r,-,r2,-⟩:=mem_cycP.1 h;exact lev_path r ones_path x r2
structure Walk (E:Nat→Nat→Bool) (K p:Nat) (f:Nat→Nat):Prop where
 per:∀ i,f (i+p)=f i
 lt:∀ i,f i<K
 edge:∀ i,E (f i) (f (i+1))=true
end
theorem sto_at {α:Type} {l:List α} {i:Nat} {x:α} (h:i<l.length):sto l (i:Int) x=some (l.set i x):=by
 unfold sto;simp [h]


section
variable {c:Constraint} {K:Nat} {box:List Range} {s:List Int} {da db:List Change}
end
def relB (q:Question) (i:Int):Bool:=q.target.hold||(q.target.index != i)
def brokenP (m:Model) (q:Question) (a b:Action) (s:List Int):Bool:=
 if q.target.hold=true then !holdsP ⟨0,0,(idx a.effect.hold q.target.index).getD default,0,0⟩ (plusP s b.effect.delta)
 else !holdsP ((idx m.constraints q.target.index).getD default) (plusP (plusP s a.effect.delta) b.effect.delta)
def showsP (m:Model) (q:Question) (rows:List Int) (a b:Action) (s:List Int):Bool:=
 (possP m a.effect s&&possP m b.effect s)&&(rows.all (λi=>!(relB q i&&!holdsP ((idx m.constraints i).getD default) (plusP (plusP s a.effect.delta) b.effect.delta)))&&brokenP m q a b s)
structure Scene (n:Nat) (m:Model) (q:Question) (a b:Action) (s:List Int):Prop where
 small:SmallM m
 valid:ValidM m
 quest:questP m q=true
 ha:idx m.actions q.e=some a
 hb:idx m.actions q.f=some b
 box:inBox (boxM m) s=true
 len:(boxM m).length≤100
 fuel:4294967296≤n
section
variable {n:Nat} {m:Model} {q:Question} {rows:List Int} {a b:Action} {s:List Int}
theorem holds_row {c} (hk:c.kind=0) (x):holdsP c x=decide (sumP x c.row.terms≤c.row.bound):=by
 unfold holdsP;rw [if_neg (by omega)]
end
theorem badR_ok {m} {rows:List Int} (h:(rows.all λx=>!badR m x)=true):∀ i∈rows,∃ (k:Nat) (hk:k<m.constraints.length),i=(k:Int)∧m.constraints[k].kind=0:=λi hi=>by
 have:=yo.1 h i hi;unfold badR at this;simp only [yA,y9,yF,Int.not_lt,Int.not_le,bne_eq_false_iff_eq] at this;obtain ⟨⟨h1,h2⟩,h3⟩:=this;obtain ⟨k,rfl⟩:=yW h1;have hk:k<m.constraints.length:=by omega
 rw [idx_nat hk,yf] at h3;exact ⟨k,hk,rfl,h3⟩
def elemP (s:Swap) (x:Int):Int:=if x=s.a then s.b else if x=s.b then s.a else x
structure SwapOK (sizes:List Int) (s:Swap):Prop where
 sort:colOK sizes s.sort=true
 a:0≤s.a
 ab:s.a<s.b
 b:s.b<sizes.getD s.sort.toNat 0
def nK (sizes:List Int) (c:Int):Nat:=(sizes.getD c.toNat 0).toNat
def colS (s:Swap) (c:Int) (x:Nat):Nat:=if c=s.sort then (elemP s (x:Int)).toNat else x
section
variable {sizes:List Int} {s:Swap} (h:SwapOK sizes s)
include h
end
def digP (sizes:List Int) (s:Swap):List Int→Nat→Nat
 | [],_=>0
 | c::cs,r=>colS s c (r % nK sizes c)+nK sizes c*digP sizes s cs (r / nK sizes c)
def mvT (sizes:List Int) (s:Swap) (strict:Bool):List Table→Int→Int
 | [],_=>-1
 | t::l,c=>if (strictP t.kind==strict&&(decide (t.first≤c)&&decide (c<t.first+widthP sizes t.columns 1)))=true then t.first+((digP sizes s t.columns.reverse (c - t.first).toNat:Nat):Int) else mvT sizes s strict l c
def mvS (sizes:List Int) (s:Swap) (strict:Bool):List Table→Int→Int
 | [],_=>-1
 | t::l,c=>if (strictP t.kind==strict&&(decide (0≤sub64 c t.first)&&decide (sub64 c t.first<widthP sizes t.columns 1)))=true then t.first+((digP sizes s t.columns.reverse (sub64 c t.first).toNat:Nat):Int) else mvS sizes s strict l c
section
variable {sizes:List Int} {s:Swap} (h:SwapOK sizes s) (hs:sizes.all sizeOK=true)
include h hs
end
def mvC (m:Model) (s:Swap) (c:Int):Int:=mvT m.sorts s true m.tables c
structure Swp (m:Model) (s:Swap):Prop where
 ok:SwapOK m.sorts s
 lay:layoutP m.sorts m.tables=true
theorem list_ext {a b:List Int} (hl:a.length=b.length) (h:∀ i:Nat,i<a.length→a.getD i 0=b.getD i 0):a=b:=by
 refine List.ext_getElem hl λi h1 h2=>?_
 have:=h i h1;simpa [uA,h1,h2] using this
def insT (t:Term):List Term→List Term
 | []=>[t]
 | u::l=>if t.cell<u.cell then t::u::l else u::insT t l
def mvt (m:Model) (s:Swap) (t:Term):Term:=⟨mvC m s t.cell,t.factor⟩
def rowL (m:Model) (s:Swap) (l:List Term) (acc:List Term):List Term:=l.foldl (λacc t=>insT (mvt m s t) acc) acc
def rowM (m:Model) (s:Swap) (r:Row):Row:=⟨rowL m s r.terms [],r.bound⟩
def deltaB (m:Model) (s:Swap) (e f:Effect):Bool:=e.delta.all λd=>f.delta.any λg=>(g.cell==mvC m s d.cell)&&(g.add==d.add)
def holdB (m:Model) (s:Swap) (e f:Effect):Bool:=e.hold.all λr=>decide (e.hold.count r=f.hold.count (rowM m s r))
def updB (m:Model) (s:Swap) (e f:Effect):Bool:=e.updates.all λu=>decide (e.updates.count u=f.updates.count ⟨u.kind,mvS m.sorts s false m.tables u.cell,u.value⟩)
def alikeB (m:Model) (s:Swap) (e f:Effect):Bool:=(decide (e.delta.length=f.delta.length)&&(decide (e.hold.length=f.hold.length)&&decide (e.updates.length=f.updates.length)))&&(deltaB m s e f&&(holdB m s e f&&updB m s e f))
structure EffS (e:Effect):Prop where
 delta:e.delta.length≤1000∧∀ d∈e.delta,-1000000≤d.cell∧d.cell≤1000000
 hold:e.hold.length≤1000∧∀ r∈e.hold,r.terms.length≤500∧∀ t∈r.terms,-1000000≤t.cell∧t.cell≤1000000
 upd:e.updates.length≤1000
def argM (s:Swap) (sorts args:List Int):List Int:=(List.range args.length).map λi:Nat=>if sorts.getD i 0=s.sort then elemP s (args.getD i 0) else args.getD i 0
def actB (m:Model) (s:Swap) (a b:Action):Bool:=(b.operation==a.operation&&decide (b.arguments=argM s (opAt m a).sorts a.arguments))&&alikeB m s a.effect b.effect
structure ActS (m:Model):Prop where
 len:m.actions.length≤1000
 act:∀ a∈m.actions,EffS a.effect∧(∃ o,idx m.operations a.operation=some o∧o.sorts.length=a.arguments.length)∧a.arguments.length≤100
def fstP (p:Nat→Bool):Nat→Nat→Option Nat
 | _,0=>none
 | i,k+1=>if p i=true then some i else fstP p (i+1) k
def conAt (m:Model) (i:Nat):Constraint:=m.constraints.getD i default
def sameC (c d:Constraint):Bool:=((d.kind==c.kind)&&(d.family==c.family))&&decide (d.row=c.row)
def rankP (m:Model) (i:Nat):Nat:=(m.constraints.take i).countP (sameC (conAt m i))
def conB (m:Model) (s:Swap) (i j:Nat):Bool:=((((conAt m j).kind==(conAt m i).kind)&&((conAt m j).family==(conAt m i).family))&&decide ((conAt m j).row=rowM m s (conAt m i).row))&&decide (rankP m j=rankP m i)
structure ConS (m:Model):Prop where
 len:m.constraints.length≤1000
 con:∀ c∈m.constraints,c.row.terms.length≤500∧∀ t∈c.row.terms,-1000000≤t.cell∧t.cell≤1000000
def risT (l:List Term):Prop:=l.Pairwise λa b=>a.cell<b.cell
structure RowIn (m:Model) (r:Row):Prop where
 ris:risT r.terms
 term:∀ t∈r.terms,termOK (boxM m).length t
section
variable {m:Model} {s:Swap} (h:Swp m s)
include h
end
theorem added_none {c:Int}:∀ {l:List Change},(∀ d∈l,d.cell≠c)→addedP l c=0
 | [],_=>rfl
 | d::l,h=>by
  rw [addedP,if_neg (h d (by simp)),added_none λe he=>h e (by simp [he])]
structure EffIn (m:Model) (e:Effect):Prop where
 nd:(e.delta.map (·.cell)).Nodup
 cell:∀ d∈e.delta,0≤d.cell∧d.cell<((boxM m).length:Int)
 hold:∀ r∈e.hold,RowIn m r
section
variable {m:Model} {s:Swap} (h:Swp m s)
include h
end
def rhoI (m:Model) (s:Swap) (a:Action):Int:=ixP (actB m s a) m.actions 0
def sigI (m:Model) (s:Swap) (i:Nat):Nat:=if (conAt m i).kind=1 then i else (fstP (conB m s i) 0 m.constraints.length).getD 0
def symB (m:Model) (s:Swap):Bool:=(m.actions.all λa=>decide (0≤rhoI m s a))&&allR (λi=>decide ((conAt m i).kind=1)||(fstP (conB m s i) 0 m.constraints.length).isSome) 0 m.constraints.length
structure Sym (m:Model) (s:Swap):Prop where
 small:SmallM m
 valid:ValidM m
 swap:SwapOK m.sorts s
 sym:symB m s=true
section
variable {m:Model} {s:Swap} (h:Sym m s)
include h
end
structure TgtMv (m:Model) (s:Swap) (q p:Question) (a A:Action):Prop where
 hold:p.target.hold=q.target.hold
 con:q.target.hold=false→∃ i:Nat,i<m.constraints.length∧q.target.index=(i:Int)∧p.target.index=((sigI m s i:Nat):Int)
 row:q.target.hold=true→∃ r,idx a.effect.hold q.target.index=some r∧idx A.effect.hold p.target.index=some (rowM m s r)
section
variable {m:Model} {s:Swap} {q p:Question} {a b A B:Action} (h:Sym m s)
include h
end
structure QMv (m:Model) (s:Swap) (q p:Question) (a b:Action):Prop where
 out:∃ (k l:Nat) (hk:k<m.actions.length) (hl:l<m.actions.length),actB m s a m.actions[k]=true∧actB m s b m.actions[l]=true∧(q.e=q.f→k=l)∧TgtMv m s q p a m.actions[k] ∧
  (q.target.hold=true→p.e=(k:Int)∧p.f=(l:Int))∧(q.target.hold=false→p.e≤p.f∧((p.e=(k:Int)∧p.f=(l:Int))∨(p.e=(l:Int)∧p.f=(k:Int))))

def wideS (x:List Int):Prop:=∀ v∈x,-9223372036854775808≤v∧v≤9223372036854775807
theorem parts64 {x:Int} (h1 : -9223372036854775808≤x) (h2:x≤9223372036854775807):(-2147483648≤x.tdiv 4294967296∧x.tdiv 4294967296≤2147483648)∧(-4294967296≤x.tmod 4294967296∧x.tmod 4294967296≤4294967296)∧x=x.tdiv 4294967296*4294967296+x.tmod 4294967296:=by
 rcases Int.le_total 0 x with h | h
 ·rw [Int.tdiv_eq_ediv_of_nonneg h,Int.tmod_eq_emod_of_nonneg h];omega
 ·obtain ⟨y,rfl⟩:∃ y,x = -y:=⟨-x,by omega⟩
  rw [Int.neg_tdiv,Int.neg_tmod,Int.tdiv_eq_ediv_of_nonneg (by omega),Int.tmod_eq_emod_of_nonneg (by omega)];omega
theorem ref12_smallW {n:Nat} {r:Row} {s:List Int} (ht:∀ t∈r.terms,termOK s.length t) (hl:r.terms.length≤1000) (hs:wideS s) (hb : -4000000000≤r.bound∧r.bound≤4000000000) (hn:1000000≤n):ref12_small n r s=some (decide (sumP s r.terms≤r.bound)):=by
 have:=loopF_I (body:=ref12_small.l1 n r s) (len:=r.terms.length) (st:=λ(p:Int×Int) i=>(p.1,p.2,(i:Int))) (g:=λ_ _=>some (decide (sumP s r.terms≤r.bound))) (λi p=>p.1*4294967296+p.2+sumP s (r.terms.drop i)=sumP s r.terms∧(-(2147483648000*i:Int)≤p.1∧p.1≤2147483648000*i)∧(-(4294967296000*i:Int)≤p.2∧p.2≤4294967296000*i)) (λrec i p hi hI hr=>?_) (λrec p hI=>?_) n 0 (0,0) (yv _) (by omega) ⟨by simp,by simp,by simp⟩
 ·simpa [ref12_small] using this
 ·obtain ⟨a,b⟩:=p
  obtain ⟨h1,h2,h3⟩:=hI
  simp only [] at h1 h2 h3
  obtain ⟨t1,t2,t3,t4⟩:=ht _ (ym hi)
  have hx:=hs _ (getD_mem t1 t2)
  rw [drop_cons hi,sumP] at h1
  generalize hxv:s.getD r.terms[i].cell.toNat 0=x at *
  have hidx:idx s r.terms[i].cell=some x:=by rw [getD_idx t1 t2,hxv]
  have hq:quo64 x 4294967296=some (x.tdiv 4294967296):=by
   unfold quo64
   rw [if_neg (by decide)]
   have:=(parts64 hx.1 hx.2).1
   rw [w64_id (by omega) (by omega)]
  have hr4:rem64 x 4294967296=some (x.tmod 4294967296):=by unfold rem64;rw [if_neg (by decide)]
  obtain ⟨hqb,hrb,hqr⟩:=parts64 hx.1 hx.2
  generalize x.tdiv 4294967296=q at *
  generalize x.tmod 4294967296=m at *
  have m1:=mul_bd t3 t4 hqb.1 hqb.2
  have m2:=mul_bd t3 t4 hrb.1 hrb.2
  have hmul:r.terms[i].factor*x=r.terms[i].factor*q*4294967296+r.terms[i].factor*m:=by
   rw [hqr,Int.mul_add,Int.mul_assoc]
  rw [hmul] at h1
  have e1:mul64 r.terms[i].factor q=r.terms[i].factor*q:=by unfold mul64;exact w64_id (by omega) (by omega)
  have e2:mul64 r.terms[i].factor m=r.terms[i].factor*m:=by unfold mul64;exact w64_id (by omega) (by omega)
  have hlen:(i:Int)≤1000:=by omega
  have e3:add64 a (r.terms[i].factor*q)=a+r.terms[i].factor*q:=by unfold add64;exact w64_id (by omega) (by omega)
  have e4:add64 b (r.terms[i].factor*m)=b+r.terms[i].factor*m:=by unfold add64;exact w64_id (by omega) (by omega)
  simp only [ref12_small.l1,lt_len hi,if_true,idx_nat hi,ya,hidx,hq,hr4,e1,e2,e3,e4,add64_1 (i:=i) (by omega)]
  exact hr (a+r.terms[i].factor*q,b+r.terms[i].factor*m) ⟨by simp only [];omega,by simp only [];omega,by simp only [];omega⟩
 ·obtain ⟨a,b⟩:=p
  obtain ⟨h1,h2,h3⟩:=hI
  simp only [List.drop_length,sumP,Int.add_zero] at h1 h2 h3
  have hlen:(r.terms.length:Int)≤1000:=by omega
  have s1:shrO .i64 b 32=some (b / 4294967296):=by
   unfold shrO
   rw [if_neg (by decide),Int.fdiv_eq_ediv_of_nonneg _ (by decide)]
   rfl
  have s2:shrO .i64 r.bound 32=some (r.bound / 4294967296):=by
   unfold shrO
   rw [if_neg (by decide),Int.fdiv_eq_ediv_of_nonneg _ (by decide)]
   rfl
  have e3:add64 a (b / 4294967296)=a+b / 4294967296:=by unfold add64;exact w64_id (by omega) (by omega)
  simp only [ref12_small.l1,ge_len,yh,if_false,s1,s2,ya,e3,band_low (x:=b) (by omega) (by omega),band_low (x:=r.bound) (by omega) (by omega),yg]
  rw [Bool.eq_iff_iff]
  simp only [yy,yc,yd,beq_iff_eq]
  omega
theorem HoldsW_eq {n c s} (hC:ConIn c s.length) (hs:wideS s) (hl:s.length≤1000) (hn:4294967296≤n):ref14_Holds n c s=some (holdsP c s):=by
 unfold ref14_Holds ref12_Holds holdsP
 cases hC with
 | row hk ht htl hb=>
  have hin:ref12_inside n c (s.length:Int)=some true:=by
   unfold ref12_inside
   rw [if_neg (by simp [hk])]
   have:=loopF_g (body:=ref12_inside.l1 n c (s.length:Int)) (len:=c.row.terms.length) (st:=λi=>(i:Int)) (g:=λ_=>some true) (λrec i hi hr=>?_) (λrec=>?_) n 0 (yv _) (by omega)
   ·simpa using this
   ·obtain ⟨t1,t2,-⟩:=ht _ (ym hi)
    have h1:decide (c.row.terms[i].cell<0)=false:=by simp;omega
    have h2:decide ((s.length:Int)≤c.row.terms[i].cell)=false:=by simp;omega
    simp only [ref12_inside.l1,lt_len hi,if_true,idx_nat hi,ya,yj,yw,grd,yf,h1,h2,Bool.or_self,yh,if_false,add64_1 (i:=i) (by omega),hr]
   ·simp [ref12_inside.l1,hk]
  have hk1:¬ c.kind=1:=by omega
  rw [hin,ya,if_neg (by simp),if_neg (by simp [hk]),ref12_smallW ht htl hs hb (by omega),if_neg hk1]
  rfl
 | graph size hk hsz h1 h6 h0 hf=>
  have hG:GraphIn c s size:=⟨hsz,h1,h6,h0,hf,hl⟩
  obtain ⟨l,hc1,hc2⟩:=Cycle_eq hk hG hn
  have hin:ref12_inside n c (s.length:Int)=some true:=by
   have hsq:((size*size:Nat):Int)=(size:Int)*(size:Int):=ug _ _
   have:size*size≤6*6:=uv h6 h6
   unfold ref12_inside
   have e1:mul64 c.size c.size=((size*size:Nat):Int):=by unfold mul64;rw [hsz,← hsq];exact w64_id (by omega) (by omega)
   have e2:sub64 (s.length:Int) ((size*size:Nat):Int)=(s.length:Int) - ((size*size:Nat):Int):=by unfold sub64;exact w64_id (by omega) (by omega)
   rw [if_pos (by simp [hk]),e1,e2,hsz]
   simp only [yg,yc,yd]
   omega
  rw [hin,ya,if_neg (by simp),if_pos (by simp [hk]),hc1,if_pos hk,hsz]
  simp only [ya,hc2,yp]
section
variable {m:Model} (hS:SmallM m) (hV:ValidM m)
include hS hV
theorem box_30:(boxM m).length≤30:=by
 have hc:=hV.cons
 have:=hS.constraints
 simp only [consP,yc,yd] at hc
 unfold boxM
 omega
end
def midS (s:List Int):Prop:=∀ v∈s,-1200000000000≤v∧v≤1200000000000
theorem midS.wide {s} (h:midS s):wideS s:=λv hv=>by have:=h v hv;omega
theorem sSum_eq {n:Nat} {r:Row} {x:List Int} (hx:midS x) (ht:∀ t∈r.terms,termOK x.length t) (hl:r.terms.length≤1000) (hn:1000000≤n):scenario_sum n r x=some (sumP x r.terms):=by
 have:=loopF_I (body:=scenario_sum.l1 n r x) (len:=r.terms.length) (st:=λ(a:Int) i=>(a,(i:Int))) (g:=λi a=>some (a+sumP x (r.terms.drop i))) (λi a=>-(1200000000000000*(i:Int))≤a∧a≤1200000000000000*(i:Int)) (λrec i a hi hI hr=>?_) (λrec a hI=>?_) n 0 0 (yv _) (by omega) (by simp)
 ·simpa [scenario_sum] using this
 ·obtain ⟨t1,t2,t3,t4⟩:=ht _ (ym hi)
  have hv:=hx _ (getD_mem t1 t2)
  have m1:=mul_bd t3 t4 hv.1 hv.2
  rw [drop_cons hi,sumP]
  have hidx:=getD_idx t1 t2
  generalize x.getD r.terms[i].cell.toNat 0=v at *
  have e1:mul64 r.terms[i].factor v=r.terms[i].factor*v:=by unfold mul64;exact w64_id (by omega) (by omega)
  have e2:add64 a (r.terms[i].factor*v)=a+r.terms[i].factor*v:=by unfold add64;exact w64_id (by omega) (by omega)
  simp only [scenario_sum.l1,lt_len hi,if_true,idx_nat hi,ya,hidx,e1,e2,add64_1 (i:=i) (by omega)]
  rw [hr _ (by omega)]
  congr 1
  omega
 ·simp only [scenario_sum.l1,ge_len,yh,if_false,List.drop_length,sumP,Int.add_zero]
def edgesL (c:Constraint) (s:List Int) (N:Nat):List Bool:=(List.range N).map λ(k:Nat)=>decide (1≤s.getD (c.first+(k:Int)).toNat 0)
theorem edgesL_len (c s N):(edgesL c s N).length=N:=by simp [edgesL]
def cyc1 (c:Constraint) (s:List Int):List Int:=(cycP (hasP ⟨c.size,edgesL c s (c.size.toNat*c.size.toNat)⟩) c.size.toNat).headD []
theorem mkl_b {b k:Nat} (h:k*b≤140737488355328):mkl b (k:Int) (false:Bool)=some (List.replicate k false):=by
 unfold mkl
 rw [if_pos (by simp;omega)]
 simp
theorem dCycle_eq {n:Nat} {edges:List Bool} {K:Nat} (h1:1≤K) (h6:K≤6) (hl:edges.length=K*K) (hn:1000000≤n):digraph_Cycle n (K:Int) edges=some ((cycP (hasP ⟨(K:Int),edges⟩) K).headD []):=by
 unfold digraph_Cycle
 rw [digraph_Cycles_eq h1 h6 hl hn,ya]
 cases cycP (hasP ⟨(K:Int),edges⟩) K with
 | nil=>rfl
 | cons x l=>
  rw [if_neg (by simp;omega)]
  rfl
theorem sCycle_eq {n:Nat} {c:Constraint} {s:List Int} {size:Nat} (hG:GraphIn c s size) (hn:1000000≤n):scenario_cycle n c s=some (cyc1 c s):=by
 have hs:=hG.sz
 have h6:=hG.six
 have h1:=hG.pos
 have h0:=hG.first
 have hf:=hG.fits
 have hlen:=hG.len
 have h4:size*size≤36:=uv h6 h6
 have e:mul64 c.size c.size=((size*size:Nat):Int):=by
  rw [hs];unfold mul64
  rw [w64_id (by rw [← ug];omega) (by rw [← ug];omega)];simp
 have hst:c.size.toNat=size:=by omega
 unfold scenario_cycle cyc1
 rw [e,mkl_b (by omega),ya,hst]
 have:=loopF_g (body:=scenario_cycle.l1 n c s (List.replicate (size*size) false)) (len:=size*size) (st:=λi=>((edgesL c s (size*size)).take i++List.replicate (size*size - i) false,(i:Int))) (g:=λ_=>some ((cycP (hasP ⟨c.size,edgesL c s (size*size)⟩) size).headD [])) (λrec i hi hr=>?_) (λrec=>?_) n 0 (yv _) (by omega)
 ·simpa using this
 ·have hle:i<(edgesL c s (size*size)).length:=by rw [edgesL_len];exact hi
  have hlt:decide ((i:Int)<((List.replicate (size*size) false).length:Int))=true:=by simp;omega
  have ha:add64 c.first (i:Int)=c.first+(i:Int):=by unfold add64;exact w64_id (by omega) (by omega)
  have hx:=getD_idx (s:=s) (c:=c.first+(i:Int)) (by omega) (by omega)
  have hbl:i<((edgesL c s (size*size)).take i++List.replicate (size*size - i) false).length:=by simp [edgesL_len];omega
  simp only [scenario_cycle.l1,hlt,if_true,ha,hx,ya]
  rw [idx_nat hbl,ya,sto_at hbl,ya,add64_1 (by omega),← hr]
  congr 2
  rw [yC hle,yQ]
  have e2:size*size - i=(size*size - (i+1))+1:=by omega
  rw [e2,List.replicate_succ,List.set_append_right _ _ (by simp [edgesL_len];omega)]
  have e3:i - ((edgesL c s (size*size)).take i).length=0:=by simp [edgesL_len];omega
  rw [e3,List.set_cons_zero]
  congr 1
  simp [edgesL]
 ·have hge:decide (((size*size:Nat):Int)<((List.replicate (size*size) false).length:Int))=false:=by simp
  simp only [scenario_cycle.l1,hge,yh,if_false,uH,List.replicate_zero,uz]
  rw [List.take_of_length_le (by rw [edgesL_len];exact yn _),hs,dCycle_eq h1 h6 (edgesL_len _ _ _) hn]
  rfl
theorem hasP_edges {c:Constraint} {s:List Int} {size a b:Nat} (hs:c.size=(size:Int)) (ha:a<size) (hb:b<size):hasP ⟨c.size,edgesL c s (size*size)⟩ a b=edgeP s c a b:=by
 have hp:=pair_lt ha hb
 unfold hasP edgeP
 simp only
 have hst:c.size.toNat=size:=by omega
 have e:c.first+(a:Int)*c.size+(b:Int)=c.first+((a*size+b:Nat):Int):=by rw [hs,Int.natCast_add,ug];omega
 rw [hst,e]
 simp [edgesL,uA,hp]
theorem cyc1_nil {c:Constraint} {s:List Int} {size:Nat} (hG:GraphIn c s size):((cyc1 c s).length==0)=acycE (edgeP s c) size:=by
 have hs:=hG.sz
 have hst:c.size.toNat=size:=by omega
 unfold cyc1
 rw [hst]
 have hE:acycE (hasP ⟨c.size,edgesL c s (size*size)⟩) size=acycE (edgeP s c) size:=by
  rw [Bool.eq_iff_iff]
  exact ⟨acycE_mono λa b ha hb h=>by rw [hasP_edges hs ha hb];exact h,acycE_mono λa b ha hb h=>by rw [← hasP_edges hs ha hb];exact h⟩
 rw [← hE]
 cases hc:cycP (hasP ⟨c.size,edgesL c s (size*size)⟩) size with
 | nil=>
  have:acycE (hasP ⟨c.size,edgesL c s (size*size)⟩) size=true:=acycE_iff.2 λx hx=>by rw [hc] at hx;cases hx
  rw [this];rfl
 | cons x l=>
  have hx:x∈cycP (hasP ⟨c.size,edgesL c s (size*size)⟩) size:=by rw [hc];simp
  have h1:acycE (hasP ⟨c.size,edgesL c s (size*size)⟩) size=false:=by
   rw [← yE]
   intro h
   exact acycE_iff.1 h x hx
  rw [h1]
  have:=(cycP_path hx).pos
  simp only [List.headD_cons,ub]
  omega
theorem sHolds_eq {n c s} (hC:ConIn c s.length) (hs:midS s) (hl:s.length≤1000) (hn:1000000≤n):scenario_holds n c s=some (holdsP c s):=by
 unfold scenario_holds
 cases hC with
 | row hk ht htl hb=>
  rw [if_pos (by simp [hk]),sSum_eq hs ht htl hn,ya,holds_row hk]
 | graph size hk hsz h1 h6 h0 hf=>
  have hG:GraphIn c s size:=⟨hsz,h1,h6,h0,hf,hl⟩
  have hst:c.size.toNat=size:=by omega
  rw [if_neg (by simp [hk]),sCycle_eq hG hn,ya]
  unfold holdsP
  rw [if_pos hk,hst,← cyc1_nil hG]
  congr 1
  rw [Bool.eq_iff_iff]
  simp
def brkP (m:Model) (s:List Int):List Int:=raisedP (λi=>!holdsP ((idx m.constraints i).getD default) s) 0 m.constraints.length
theorem raisedP_sn (p:Int→Bool):∀ (k i:Nat),raisedP p i (k+1)=raisedP p i k++(if p ((i+k:Nat):Int)=true then [((i+k:Nat):Int)] else [])
 | 0,i=>by
  simp only [raisedP,uo,yZ]
 | k+1,i=>by
  rw [raisedP,raisedP_sn p k (i+1)]
  conv=>rhs;rw [raisedP]
  rw [show i+1+k=i+(k+1) by omega]
  split <;> simp
theorem brk_loop {n m s} {body:(List Int×Int→Option (List Int))→List Int×Int→Option (List Int)} (hl:m.constraints.length≤1000)
  (hb:∀ rec (out:List Int) (i:Nat) (hi:i<m.constraints.length),out.length≤1000→body rec (out,(i:Int))=if holdsP m.constraints[i] s=true then rec (out,((i+1:Nat):Int)) else rec (out++[(i:Int)],((i+1:Nat):Int)))
  (he:∀ rec out,body rec (out,(m.constraints.length:Int))=some out) (hn:1000000≤n):loopF body n ([],0)=some (brkP m s):=by
 have:=loopF_g (body:=body) (len:=m.constraints.length) (st:=λi=>(raisedP (λi=>!holdsP ((idx m.constraints i).getD default) s) 0 i,(i:Int))) (g:=λ_=>some (brkP m s)) (λrec i hi hr=>?_) (λrec=>?_) n 0 (yv _) (by omega)
 ·exact this
 ·rw [hb rec _ i hi (by have:=raisedP_len (λi=>!holdsP ((idx m.constraints i).getD default) s) i 0;omega),← hr,raisedP_sn,um,idx_nat hi,yf]
  cases holdsP m.constraints[i] s <;> simp
 ·exact he rec _
theorem brk_nil {m s}:((brkP m s).length==0)=m.constraints.all λc=>holdsP c s:=by
 unfold brkP
 have key:∀ (k i:Nat) (p:Int→Bool),((raisedP p i k).length==0)=true↔∀ j,i≤j→j<i+k→p (j:Int)=false:=by
  intro k
  induction k with
  | zero=>intro i p;simp [raisedP];omega
  | succ k ih=>
   intro i p
   rw [raisedP]
   by_cases hp:p (i:Int)=true
   ·rw [if_pos hp]
    simp only [yN,beq_iff_eq]
    constructor
    ·intro h;omega
    ·intro h
     have:=h i (yn _) (by omega)
     rw [hp] at this;cases this
   ·rw [if_neg hp,ih]
    constructor
    ·intro h j h1 h2
     by_cases e:j=i
     ·subst e;simpa using hp
     ·exact h j (by omega) (by omega)
    ·intro h j h1 h2
     exact h j (by omega) (by omega)
 rw [Bool.eq_iff_iff,key,yo]
 constructor
 ·intro h c hc
  obtain ⟨i,hi,rfl⟩:=List.getElem_of_mem hc
  have:=h i (yv _) (by omega)
  rw [idx_nat hi] at this
  simpa using this
 ·intro h j _ hj
  have hj:j<m.constraints.length:=by omega
  rw [idx_nat hj]
  simpa using h _ (ym hj)
theorem sBroken_eq {n m s} (hC:∀ c∈m.constraints,ConIn c s.length) (hs:midS s) (hl:s.length≤1000) (hcl:m.constraints.length≤1000) (hn:1000000≤n):scenario_broken n m s=some (brkP m s):=by
 unfold scenario_broken
 refine brk_loop hcl (λrec out i hi ho=>?_) (λrec out=>?_) hn
 ·simp only [scenario_broken.l1,lt_len hi,if_true,idx_nat hi,jn,ya,sHolds_eq (hC _ (ym hi)) hs hl hn,add64_1 (i:=i) (by omega)]
  cases holdsP m.constraints[i] s with
  | true=>simp
  | false=>
   simp only [uq,if_true,yh,if_false]
   rw [app_some (by simp;omega),ya]
 ·simp only [scenario_broken.l1,ge_len,yh,if_false]
theorem rBroken_eq {n m s} (hC:∀ c∈m.constraints,ConIn c s.length) (hs:wideS s) (hl:s.length≤1000) (hcl:m.constraints.length≤1000) (hn:4294967296≤n):loopF (ref24_Broken.l1 n m s) n ([],0)=some (brkP m s):=by
 refine brk_loop hcl (λrec out i hi ho=>?_) (λrec out=>?_) (by omega)
 ·simp only [ref24_Broken.l1,lt_len hi,if_true,idx_nat hi,jn,ya,HoldsW_eq (hC _ (ym hi)) hs hl hn,add64_1 (i:=i) (by omega)]
  cases holdsP m.constraints[i] s with
  | true=>simp
  | false=>
   simp only [uq,if_true,yh,if_false]
   rw [app_some (by simp;omega),ya]
 ·simp only [ref24_Broken.l1,ge_len,yh,if_false]
theorem added_snoc {d:Change} {c:Int}:∀ {l:List Change},(∀ e∈l,e.cell≠d.cell)→addedP (l++[d]) c=if d.cell=c then d.add else addedP l c
 | [],_=>by simp [addedP]
 | e::l,h=>by
  have ih:=added_snoc (d:=d) (c:=c) (l:=l) λx hx=>h x (by simp [hx])
  have he:=h e (by simp)
  rw [y6,addedP,addedP,ih]
  by_cases h1:e.cell=c
  ·rw [if_pos h1,if_pos h1,if_neg (by omega)]
  ·rw [if_neg h1,if_neg h1]
structure ActD (K:Nat) (d:List Change):Prop where
 small:smallD d
 cell:∀ e∈d,0≤e.cell∧e.cell<(K:Int)
 nd:(d.map (·.cell)).Nodup
 len:d.length≤1000
theorem actD_of {m} (hS:SmallM m) (hV:ValidM m) {a} (ha:a∈m.actions):ActD (boxM m).length a.effect.delta:=by
 have h:=(valid_act hV ha).1
 simp only [effP,yc,yo] at h
 obtain ⟨p1,p2⟩:=deltaP_spec _ _ h.1
 obtain ⟨-,h1,-⟩:=hS.act a ha
 exact ⟨λx hx=>by have:=p1 x hx;omega,λe he=>by have:=p1 e he;unfold boxM;omega,p2,by omega⟩
def lowS (s:List Int):Prop:=∀ v∈s,-1099511627776≤v∧v≤1099511627776
theorem lowS.mid {s} (h:lowS s):midS s:=λv hv=>by have:=h v hv;omega
theorem lowS.plus {s d} (h:lowS s) (hd:smallD d):midS (plusP s d):=λv hv=>by
 have:=plus_small (B:=1099511627776) h hd v hv
 omega
theorem lowS.plus2 {s d e} (h:lowS s) (hd:smallD d) (he:smallD e):midS (plusP (plusP s d) e):=λv hv=>by
 have:=plus_small (B:=1100511627776) (λx hx=>by have:=plus_small (B:=1099511627776) h hd x hx;omega) he v hv
 omega
theorem plus_nil (x:List Int):plusP x []=x:=by
 refine list_ext (by rw [plus_len]) λi hi=>?_
 rw [plus_len] at hi
 have:=plus_get (s:=x) (d:=[]) (c:=(i:Int)) (by omega) (by omega)
 rw [yp] at this
 rw [this];simp [addedP]
theorem sBehind_in {n:Nat} {x16:Int} {rec50:List Int×Int→Option (List Int)} {a:Action} {x:List Int} (hx:midS x) (hl:x.length≤1000) (hd:ActD x.length a.effect.delta) (hn:1000000≤n):loopF (scenario_behind.l2 n x16 rec50 a) n (x,0)=rec50 (plusP x a.effect.delta,add64 x16 1):=by
 have hdl:=hd.len
 have:=loopF_g (body:=scenario_behind.l2 n x16 rec50 a) (len:=a.effect.delta.length) (st:=λi=>(plusP x (a.effect.delta.take i),(i:Int))) (g:=λ_=>rec50 (plusP x a.effect.delta,add64 x16 1)) (λrec i hi hr2=>?_) (λrec=>?_) n 0 (yv _) (by omega)
 ·rw [List.take_zero,plus_nil] at this;exact this
 ·obtain ⟨c0,c1⟩:=hd.cell _ (ym hi)
  obtain ⟨c,hcc⟩:=yW c0
  have hcx:c<x.length:=by omega
  have hne:∀ e∈a.effect.delta.take i,e.cell≠a.effect.delta[i].cell:=λe he hee=>by
   obtain ⟨j,hj,rfl⟩:=List.getElem_of_mem he
   rw [yO] at hj
   have hji:j<i:=by omega
   have hnd:=hd.nd
   rw [List.nodup_iff_pairwise_ne,List.pairwise_iff_getElem] at hnd
   have:=hnd j i (by simp;omega) (by simp;omega) hji
   simp only [List.getElem_map] at this
   simp only [List.getElem_take] at hee
   exact this hee
  have hpl:(plusP x (a.effect.delta.take i)).length=x.length:=plus_len _ _
  have hz:addedP (a.effect.delta.take i) (c:Int)=0:=added_none λe he=>by have:=hne e he;omega
  have hg:=plus_get (s:=x) (d:=a.effect.delta.take i) (c:=(c:Int)) (by omega) (by omega)
  rw [yp,hz,Int.add_zero] at hg
  have hgi:idx (plusP x (a.effect.delta.take i)) (c:Int)=some (x.getD c 0):=by
   rw [getD_idx (by omega) (by omega),yp,hg]
  have hv:=hx _ (getD_mem (s:=x) (c:=(c:Int)) (by omega) (by omega))
  rw [yp] at hv
  have hda:=hd.small _ (ym hi)
  have hadd:add64 (x.getD c 0) a.effect.delta[i].add=x.getD c 0+a.effect.delta[i].add:=by unfold add64;exact w64_id (by omega) (by omega)
  simp only [scenario_behind.l2,lt_len hi,if_true,idx_nat hi,ya,hcc,hgi]
  rw [hadd,sto_at (by omega),ya,add64_1 (by omega),← hr2]
  congr 2
  refine list_ext (by rw [List.length_set,plus_len,plus_len]) λj hj=>?_
  rw [List.length_set,plus_len] at hj
  have hg2:=plus_get (s:=x) (d:=a.effect.delta.take (i+1)) (c:=(j:Int)) (by omega) (by omega)
  have hg3:=plus_get (s:=x) (d:=a.effect.delta.take i) (c:=(j:Int)) (by omega) (by omega)
  rw [yp] at hg2 hg3
  rw [hg2,yC hi,added_snoc hne,hcc]
  by_cases e:c=j
  ·subst e
   rw [if_pos rfl]
   simp [uA,hpl,hcx]
  ·rw [if_neg (by omega),← hg3]
   simp [uA,List.getElem?_set,e]
 ·simp only [scenario_behind.l2,ge_len,yh,if_false,List.take_length]
theorem sBehind_step {n f:Nat} {m:Model} {acts:List Int} {i:Nat} {k:Int} {a:Action} {x:List Int} (hi:i<acts.length) (hk:acts[i]=k) (ha:idx m.actions k=some a) (hil:i<1000) (hx:midS x) (hl:x.length≤1000) (hd:ActD x.length a.effect.delta) (hn:1000000≤n) :
  loopF (scenario_behind.l1 n m acts) (f+1) (x,(i:Int))=loopF (scenario_behind.l1 n m acts) f (plusP x a.effect.delta,((i+1:Nat):Int)):=by
 conv=>lhs;rw [loopF]
 simp only [scenario_behind.l1,lt_len hi,if_true,idx_nat hi,hk,ya,ha]
 rw [sBehind_in hx hl hd hn,add64_1 (by omega)]
theorem sBehind_end {n f:Nat} {m:Model} {acts:List Int} {x:List Int}:loopF (scenario_behind.l1 n m acts) (f+1) (x,(acts.length:Int))=some x:=by
 rw [loopF]
 simp only [scenario_behind.l1,ge_len,yh,if_false]
theorem sBehind_1 {n:Nat} {m:Model} {i:Int} {a:Action} {x:List Int} (ha:idx m.actions i=some a) (hx:midS x) (hl:x.length≤1000) (hd:ActD x.length a.effect.delta) (hn:1000000≤n):scenario_behind n m x [i]=some (plusP x a.effect.delta):=by
 unfold scenario_behind
 rw [app_some (by simp;omega),ya,yZ]
 obtain ⟨f,hf⟩:∃ f,n=f+1+1:=⟨n - 2,by omega⟩
 have h1:=sBehind_step (n:=n) (f:=f+1) (m:=m) (acts:=[i]) (i:=0) (by simp) rfl ha (by omega) hx hl hd hn
 have h2:=sBehind_end (n:=n) (f:=f) (m:=m) (acts:=[i]) (x:=plusP x a.effect.delta)
 have e:loopF (scenario_behind.l1 n m [i]) n (x,0)=loopF (scenario_behind.l1 n m [i]) (f+1+1) (x,((0:Nat):Int)):=by rw [← hf];rfl
 rw [e,h1];exact h2
theorem sBehind_2 {n:Nat} {m:Model} {i j:Int} {a b:Action} {x:List Int} (ha:idx m.actions i=some a) (hb:idx m.actions j=some b) (hx:midS x) (hx2:midS (plusP x a.effect.delta)) (hl:x.length≤1000) (hd:ActD x.length a.effect.delta) (hd2:ActD x.length b.effect.delta) (hn:1000000≤n):scenario_behind n m x [i,j]=some (plusP (plusP x a.effect.delta) b.effect.delta):=by
 unfold scenario_behind
 rw [app_some (by simp;omega),ya,yZ]
 obtain ⟨f,hf⟩:∃ f,n=f+1+1+1:=⟨n - 3,by omega⟩
 have h1:=sBehind_step (n:=n) (f:=f+1+1) (m:=m) (acts:=[i,j]) (i:=0) (by simp) rfl ha (by omega) hx hl hd hn
 have h2:=sBehind_step (n:=n) (f:=f+1) (m:=m) (acts:=[i,j]) (i:=1) (by simp) rfl hb (by omega) hx2 (by rw [plus_len];exact hl) (by rw [plus_len];exact hd2) hn
 have h3:=sBehind_end (n:=n) (f:=f) (m:=m) (acts:=[i,j]) (x:=plusP (plusP x a.effect.delta) b.effect.delta)
 have e:loopF (scenario_behind.l1 n m [i,j]) n (x,0)=loopF (scenario_behind.l1 n m [i,j]) (f+1+1+1) (x,((0:Nat):Int)):=by rw [← hf];rfl
 rw [e,h1,h2];exact h3
theorem PlusM_eq {n e s} (h1:e.delta.length<4611686018427387904) (h2:e.delta.length<n) (ha:∀ k,addP k e.delta 0=addedP e.delta k) (hd:smallD e.delta) (hs:midS s) (hl:s.length≤1000) (hn:1000000≤n):ref22_Plus n s e=some (plusP s e.delta):=by
 unfold ref22_Plus
 have:=loopF_g (body:=ref22_Plus.l1 n s e) (len:=s.length) (st:=λi=>((plusP s e.delta).take i,(i:Int))) (g:=λ_=>some (plusP s e.delta)) (λrec i hi hr=>?_) (λrec=>?_) n 0 (yv _) (by omega)
 ·simpa using this
 ·have hip:i<(plusP s e.delta).length:=by rw [plus_len];exact hi
  rw [yC hip] at hr
  have hel:(plusP s e.delta)[i]=s[i]+addedP e.delta (i:Int):=by simp [plusP,List.getD,hi]
  have hb:=hs _ (ym hi)
  have hd':=added_small hd (i:Int)
  have hadd:add64 s[i] (addedP e.delta (i:Int))=s[i]+addedP e.delta (i:Int):=by unfold add64;exact w64_id (by omega) (by omega)
  simp only [ref22_Plus.l1,lt_len hi,if_true,idx_nat hi,ya,ref22_Add_eq _ h1 h2,ha,hadd,add64_1 (i:=i) (by omega)]
  rw [app_some (by simp;omega),ya,← hel]
  exact hr
 ·simp only [ref22_Plus.l1,ge_len,yh,if_false]
  rw [List.take_of_length_le (by rw [plus_len];exact yn _)]
structure SceneM (n:Nat) (m:Model) (q:Question) (a b:Action) (s:List Int):Prop where
 small:SmallM m
 valid:ValidM m
 quest:questP m q=true
 ha:idx m.actions q.e=some a
 hb:idx m.actions q.f=some b
 len:s.length=(boxM m).length
 low:lowS s
 fuel:4294967296≤n
section
variable {n:Nat} {m:Model} {q:Question} {rows:List Int} {a b:Action} {s:List Int}
theorem SceneM.box (h:SceneM n m q a b s):(boxM m).length≤30:=box_30 h.small h.valid
theorem SceneM.dA (h:SceneM n m q a b s):ActD s.length a.effect.delta:=by rw [h.len];exact actD_of h.small h.valid (idx_mem h.ha)
theorem SceneM.dB (h:SceneM n m q a b s):ActD s.length b.effect.delta:=by rw [h.len];exact actD_of h.small h.valid (idx_mem h.hb)
theorem SceneM.con (h:SceneM n m q a b s) {x:List Int} (hx:x.length=s.length) {c} (hc:c∈m.constraints):ConIn c x.length:=by
 rw [hx,h.len];exact con_in h.small h.valid hc
theorem all_and {α:Type} {f g:α→Bool}:∀ (l:List α),l.all (λc=>f c&&g c)=(l.all f&&l.all g)
 | []=>rfl
 | x::l=>by
  rw [ui,ui,ui,all_and l]
  cases f x <;> cases g x <;> cases l.all f <;> rfl
theorem possP_eq (m:Model) (e:Effect) (s:List Int):possP m e s=(((m.constraints.all λc=>holdsP c s)&&(m.constraints.all λc=>holdsP c (plusP s e.delta)))&&e.hold.all λr=>holdsP ⟨0,0,r,0,0⟩ s):=by
 unfold possP
 rw [all_and]
theorem hold_in (h:SceneM n m q a b s) {x:Action} (hx:x∈m.actions) {r:Row} (hr:r∈x.effect.hold):(∀ t∈r.terms,termOK s.length t)∧r.terms.length≤1000∧ConIn ⟨0,0,r,0,0⟩ s.length:=by
 have h1:=(act_delta h.valid hx).2 r hr
 obtain ⟨-,-,-,-,h4⟩:=h.small.act x hx
 have h5:=h4 r hr
 have h6:=row_in h1 (by omega)
 rw [← h.len] at h6
 have h7:=h1
 simp only [rowOK,yc] at h7
 rw [h.len]
 exact ⟨rowP_terms h7.1 (by decide),by omega,by rw [← h.len];exact h6⟩
theorem sPoss_eq (h:SceneM n m q a b s) {i:Int} {x:Action} (hx:idx m.actions i=some x):scenario_possible n m i s=some ((x.effect.hold.all λr=>holdsP ⟨0,0,r,0,0⟩ s)&&(m.constraints.all λc=>holdsP c (plusP s x.effect.delta))):=by
 have hn:=h.fuel
 have hb:=h.box
 have hsl:=h.len
 have hxm:=idx_mem hx
 have hcl:=h.small.constraints
 obtain ⟨a1,a2,a3,a4,a5⟩:=h.small.act x hxm
 have hd:ActD s.length x.effect.delta:=by rw [h.len];exact actD_of h.small h.valid hxm
 unfold scenario_possible
 rw [hx,ya]
 have:=loopF_lall (body:=scenario_possible.l1 n m i s x) (l:=x.effect.hold) (n:=n) (st:=λi=>(i:Int)) (λr=>holdsP ⟨0,0,r,0,0⟩ s) (some false) (some (m.constraints.all λc=>holdsP c (plusP s x.effect.delta))) (λrec k hk=>?_) (λrec=>?_) (by omega)
 ·rw [show ((0:Nat):Int)=0 from rfl] at this
  rw [this]
  cases (x.effect.hold.all λr=>holdsP ⟨0,0,r,0,0⟩ s) <;> rfl
 ·obtain ⟨r1,r2,-⟩:=hold_in h hxm (ym hk)
  have hh:holdsP ⟨0,0,x.effect.hold[k],0,0⟩ s=decide (sumP s x.effect.hold[k].terms≤x.effect.hold[k].bound):=holds_row (c:=⟨0,0,x.effect.hold[k],0,0⟩) rfl s
  simp only [scenario_possible.l1,lt_len hk,if_true,idx_nat hk,ya,sSum_eq h.low.mid r1 r2 (show 1000000≤n by omega),add64_1 (i:=k) (by omega),hh]
  by_cases e:x.effect.hold[k].bound<sumP s x.effect.hold[k].terms
  ·rw [if_pos (by simpa using e),if_neg (by simp;omega)]
  ·rw [if_neg (by simpa using e),if_pos (by simp;omega)]
 ·simp only [scenario_possible.l1,ge_len,yh,if_false]
  rw [sBehind_1 hx h.low.mid (by omega) hd (by omega),ya,sBroken_eq (λc hc=>h.con (by rw [plus_len]) hc) (h.low.plus hd.small) (by rw [plus_len];omega) (by omega) (by omega),ya,← brk_nil]
  congr 1
  rw [Bool.eq_iff_iff]
  simp
theorem bad_ex (h:(rows.all λx=>!badR m x)=false):∃ (k:Nat) (hk:k<rows.length),badR m rows[k]=true∧∀ (j:Nat) (hj:j<k),badR m rows[j]=false:=by
 induction rows with
 | nil=>cases h
 | cons x l ih=>
  rw [ui] at h
  by_cases hx:badR m x=true
  ·exact ⟨0,by simp,hx,λj hj=>by omega⟩
  ·simp only [yE] at hx
   rw [hx,uq,yB] at h
   obtain ⟨k,h1,h2,h3⟩:=ih h
   refine ⟨k+1,by simp;omega,by simpa using h2,λj hj=>?_⟩
   cases j with
   | zero=>exact hx
   | succ j=>simpa using h3 j (by omega)
theorem sValid_in (h:SceneM n m q a b s) (hl:rows.length≤1000):∀ sc:Scenario,sc.question=q→sc.state=s→loopF (scenario_Valid.l1 n m sc rows) n 0=some ((rows.all λx=>!badR m x)&&showsP m q rows a b s):=by
 intro sc hq hst
 have hn:=h.fuel
 have hb:=h.box
 have hsl:=h.len
 have hcl:=h.small.constraints
 obtain ⟨q1,q2,q3,q4,q5⟩:=questP_spec h.quest
 have ham:=idx_mem h.ha
 have hbm:=idx_mem h.hb
 have hmid:=h.low.mid
 have hA:=h.dA
 have hB:=h.dB
 have hpl:(plusP (plusP s a.effect.delta) b.effect.delta).length=s.length:=by rw [plus_len,plus_len]
 have hcon:∀ c∈m.constraints,scenario_holds n c (plusP (plusP s a.effect.delta) b.effect.delta)=some (holdsP c (plusP (plusP s a.effect.delta) b.effect.delta)):=λc hc=>sHolds_eq (h.con hpl hc) (h.low.plus2 hA.small hB.small) (by omega) (by omega)
 have hend:∀ rec,scenario_Valid.l2 n m sc rows (plusP (plusP s a.effect.delta) b.effect.delta) rec (rows.length:Int)=some (brokenP m q a b s):=λrec=>by
  simp only [scenario_Valid.l2,ge_len,yh,if_false,hq,hst]
  unfold brokenP
  cases hh:q.target.hold with
  | true=>
   simp only [if_true]
   obtain ⟨r,hr⟩:=idx_some q3 (q4 hh a h.ha)
   obtain ⟨r1,r2,-⟩:=hold_in h ham (idx_mem hr)
   rw [h.ha,ya,hr,ya,sBehind_1 h.hb hmid (by omega) hB (by omega),ya,sSum_eq (h.low.plus hB.small) (by rw [plus_len];exact r1) r2 (by omega),ya,yf,holds_row (c:=⟨0,0,r,0,0⟩) rfl]
   congr 1
   rw [Bool.eq_iff_iff]
   simp
  | false=>
   simp only [yh,if_false]
   obtain ⟨c,hc⟩:=idx_some q3 (q5 hh).2
   rw [hc,ya,hcon c (idx_mem hc)]
   rfl
 have hloop2:(rows.all λx=>!badR m x)=true→loopF (scenario_Valid.l2 n m sc rows (plusP (plusP s a.effect.delta) b.effect.delta)) n 0=some ((rows.all λi=>!(relB q i&&!holdsP ((idx m.constraints i).getD default) (plusP (plusP s a.effect.delta) b.effect.delta)))&&brokenP m q a b s):=λhgood=>by
  have:=loopF_lall (body:=scenario_Valid.l2 n m sc rows (plusP (plusP s a.effect.delta) b.effect.delta)) (l:=rows) (n:=n) (st:=λi=>(i:Int)) (λi=>!(relB q i&&!holdsP ((idx m.constraints i).getD default) (plusP (plusP s a.effect.delta) b.effect.delta))) (some false) (some (brokenP m q a b s)) (λrec i hi=>?_) (λrec=>hend rec) (by omega)
  ·rw [show ((0:Nat):Int)=0 from rfl] at this
   rw [this]
   cases (rows.all λi=>!(relB q i&&!holdsP ((idx m.constraints i).getD default) (plusP (plusP s a.effect.delta) b.effect.delta))) <;> rfl
  ·obtain ⟨k,hk,e,-⟩:=badR_ok hgood _ (ym hi)
   have hc:idx m.constraints rows[i]=some m.constraints[k]:=by rw [e];exact idx_nat hk
   have hrel:(q.target.hold||(rows[i] != q.target.index))=relB q rows[i]:=by
    unfold relB
    rw [bne_comm (a:=rows[i])]
   simp only [scenario_Valid.l2,lt_len hi,if_true,idx_nat hi,ya,yj,yw,grd,yf,hc,hcon _ (ym hk),add64_1 (i:=i) (by omega),hq,hrel]
   cases relB q rows[i]&&!holdsP m.constraints[k] (plusP (plusP s a.effect.delta) b.effect.delta) <;> simp
 have hbr:scenario_broken n m s=some (brkP m s):=sBroken_eq (λc hc=>h.con rfl hc) hmid (by omega) (by omega) (by omega)
 have hbeh:=sBehind_2 h.ha h.hb hmid (h.low.plus hA.small) (by omega) hA hB (show 1000000≤n by omega)
 have hbn:decide (0<((brkP m s).length:Int)) = !(m.constraints.all λc=>holdsP c s):=by
  rw [← brk_nil]
  cases brkP m s with
  | nil=>rfl
  | cons x l=>simp
 have hl1:∀ rec,(rows.all λx=>!badR m x)=true→scenario_Valid.l1 n m sc rows rec (rows.length:Int)=some (showsP m q rows a b s):=λrec hgood=>by
  simp only [scenario_Valid.l1,ge_len,yh,if_false,hq,hst,hbr,ya,sPoss_eq h h.ha,sPoss_eq h h.hb,yj,yw,grd,if_true,yf,hbeh,hloop2 hgood,hbn]
  unfold showsP
  rw [possP_eq,possP_eq]
  generalize (rows.all λi=>!(relB q i&&!holdsP ((idx m.constraints i).getD default) (plusP (plusP s a.effect.delta) b.effect.delta)))=X
  cases (m.constraints.all λc=>holdsP c s) <;> cases (m.constraints.all λc=>holdsP c (plusP s a.effect.delta)) <;> cases (m.constraints.all λc=>holdsP c (plusP s b.effect.delta)) <;> cases (a.effect.hold.all λr=>holdsP ⟨0,0,r,0,0⟩ s) <;> cases (b.effect.hold.all λr=>holdsP ⟨0,0,r,0,0⟩ s) <;> simp
 have hstep:∀ rec (i:Nat) (hi:i<rows.length),scenario_Valid.l1 n m sc rows rec (i:Int)=if badR m rows[i]=true then some false else rec ((i+1:Nat):Int):=λrec i hi=>by
  simp only [scenario_Valid.l1,lt_len hi,if_true,idx_nat hi,ya,add64_1 (i:=i) (by omega)]
  unfold badR
  generalize rows[i]=r
  by_cases h0:r<0
  ·simp [h0,grd]
  ·by_cases h1:(m.constraints.length:Int)≤r
   ·simp [h1,grd]
   ·obtain ⟨c,hc⟩:=idx_some (l:=m.constraints) (i:=r) (by omega) (by omega)
    simp only [hc,yj,yw,grd,if_true,yf]
 cases hg:rows.all λx=>!badR m x with
 | true=>
  have:=loopF_g (body:=scenario_Valid.l1 n m sc rows) (len:=rows.length) (st:=λi=>(i:Int)) (g:=λ_=>some (showsP m q rows a b s)) (λrec i hi hr=>?_) (λrec=>hl1 rec hg) n 0 (yv _) (by omega)
  ·rw [show ((0:Nat):Int)=0 from rfl] at this
   rw [this];rfl
  ·have:=yo.1 hg _ (ym hi)
   simp only [yA] at this
   rw [hstep rec i hi,this,if_neg (by simp)]
   exact hr
 | false=>
  obtain ⟨k,h1,h2,h3⟩:=bad_ex hg
  have:=loopF_g (body:=scenario_Valid.l1 n m sc rows) (len:=k) (st:=λi=>(i:Int)) (g:=λ_=>some false) (λrec i hi hr=>?_) (λrec=>?_) n 0 (yv _) (by omega)
  ·rw [show ((0:Nat):Int)=0 from rfl] at this
   rw [this];rfl
  ·rw [hstep rec i (by omega),h3 i hi,if_neg (by simp)]
   exact hr
  ·rw [hstep rec k h1,h2,if_pos rfl]
end
section
variable {n:Nat} {m:Model} {q:Question} {rows:List Int} {a b:Action} {s:List Int}
theorem addA (h:SceneM n m q a b s) {x:Action} (hx:x∈m.actions):x.effect.delta.length<4611686018427387904∧x.effect.delta.length<n∧(∀ k,addP k x.effect.delta 0=addedP x.effect.delta k):=by
 obtain ⟨g1,g2,g3,-⟩:=(good_of_valid h.fuel h.small h.valid).acts x hx
 exact ⟨g1,g2,g3⟩
theorem rPlus (h:SceneM n m q a b s) {x:Action} (hx:x∈m.actions) {y:List Int} (hy:midS y) (hl:y.length=s.length):ref22_Plus n y x.effect=some (plusP y x.effect.delta):=by
 obtain ⟨g1,g2,g3⟩:=addA h hx
 have:=h.box
 have:=h.len
 have:=h.fuel
 exact PlusM_eq g1 g2 g3 (actD_of h.small h.valid hx).small hy (by omega) (by omega)
theorem rRow (h:SceneM n m q a b s) {x:Action} (hx:x∈m.actions) {r:Row} (hr:r∈x.effect.hold) {y:List Int} (hy:wideS y) (hl:y.length=s.length):ref22_Row n r y=some (holdsP ⟨0,0,r,0,0⟩ y):=by
 have:=h.box
 have:=h.len
 obtain ⟨-,-,r3⟩:=hold_in h hx hr
 unfold ref22_Row
 rw [HoldsW_eq (by rw [hl];exact r3) hy (by omega) h.fuel];rfl
theorem rPoss (h:SceneM n m q a b s) {x:Action} (hx:x∈m.actions):ref22_Possible n m x.effect s=some (possP m x.effect s):=by
 have hn:=h.fuel
 have hb:=h.box
 have hsl:=h.len
 have hcl:=h.small.constraints
 obtain ⟨-,a2,a3,-,-⟩:=h.small.act x hx
 have hd:=(actD_of h.small h.valid hx).small
 have hpl:=plus_len s x.effect.delta
 unfold ref22_Possible possP
 rw [rPlus h hx h.low.mid rfl,ya]
 have T:loopF (ref22_Possible.l2 n x.effect s) n 0=if (x.effect.hold.all λr=>holdsP ⟨0,0,r,0,0⟩ s)=true then some true else some false:=by
  have:=loopF_lall (body:=ref22_Possible.l2 n x.effect s) (l:=x.effect.hold) (n:=n) (st:=λi=>(i:Int)) (λr=>holdsP ⟨0,0,r,0,0⟩ s) (some false) (some true) (λrec i hi=>?_) (λrec=>?_) (by omega)
  ·simpa using this
  ·simp only [ref22_Possible.l2,lt_len hi,if_true,idx_nat hi,ya,rRow h hx (ym hi) h.low.mid.wide rfl,add64_1 (i:=i) (by omega)]
   cases holdsP ⟨0,0,x.effect.hold[i],0,0⟩ s <;> simp
  ·simp [ref22_Possible.l2]
 have:=loopF_lall (body:=ref22_Possible.l1 n m x.effect s (plusP s x.effect.delta)) (l:=m.constraints) (n:=n) (st:=λi=>(i:Int)) (λc=>holdsP c s&&holdsP c (plusP s x.effect.delta)) (some false) (loopF (ref22_Possible.l2 n x.effect s) n 0) (λrec i hi=>?_) (λrec=>?_) (by omega)
 ·simp only [Int.natCast_zero] at this
  rw [this,T]
  cases (m.constraints.all λc=>holdsP c s&&holdsP c (plusP s x.effect.delta)) <;> cases (x.effect.hold.all λr=>holdsP ⟨0,0,r,0,0⟩ s) <;> rfl
 ·have h1:ref14_Holds n m.constraints[i] s=some (holdsP m.constraints[i] s):=HoldsW_eq (h.con rfl (ym hi)) h.low.mid.wide (by omega) hn
  have h2:ref14_Holds n m.constraints[i] (plusP s x.effect.delta)=some (holdsP m.constraints[i] (plusP s x.effect.delta)):=HoldsW_eq (h.con hpl (ym hi)) (h.low.plus hd).wide (by omega) hn
  simp only [ref22_Possible.l1,lt_len hi,if_true,idx_nat hi,ya,h1,h2,yj,yw,grd,yf,add64_1 (i:=i) (by omega)]
  cases holdsP m.constraints[i] s <;> cases holdsP m.constraints[i] (plusP s x.effect.delta) <;> simp
 ·simp [ref22_Possible.l1]
theorem rShows (h:SceneM n m q a b s) (hl:rows.length≤1000) (hgood:(rows.all λx=>!badR m x)=true):ref22_Shows n m q rows s=some (showsP m q rows a b s):=by
 have hn:=h.fuel
 have hb:=h.box
 have hrows:=badR_ok hgood
 obtain ⟨q1,q2,q3,q4,q5⟩:=questP_spec h.quest
 have ham:=idx_mem h.ha
 have hbm:=idx_mem h.hb
 have hsl:=h.len
 have hA:=h.dA
 have hB:=h.dB
 have hlab:(plusP (plusP s a.effect.delta) b.effect.delta).length=s.length:=by rw [plus_len,plus_len]
 have hcons:∀ c∈m.constraints,ref14_Holds n c (plusP (plusP s a.effect.delta) b.effect.delta)=some (holdsP c (plusP (plusP s a.effect.delta) b.effect.delta)):=λc hc=>
  HoldsW_eq (h.con hlab hc) (h.low.plus2 hA.small hB.small).wide (by omega) hn
 have hend:∀ rec,ref22_Shows.l2 n m q rows s a b (plusP (plusP s a.effect.delta) b.effect.delta) rec (rows.length:Int)=some (brokenP m q a b s):=λrec=>by
  simp only [ref22_Shows.l2,ge_len,yh,if_false]
  unfold brokenP
  cases hh:q.target.hold with
  | true=>
   simp only [if_true]
   obtain ⟨r,hr⟩:=idx_some q3 (q4 hh a h.ha)
   rw [hr,ya,rPlus h hbm h.low.mid rfl,ya,rRow h ham (idx_mem hr) (h.low.plus hB.small).wide (plus_len _ _)]
   rfl
  | false=>
   simp only [yh,if_false]
   obtain ⟨c,hc⟩:=idx_some q3 (q5 hh).2
   rw [hc,ya,hcons c (idx_mem hc)]
   rfl
 have hloop2:loopF (ref22_Shows.l2 n m q rows s a b (plusP (plusP s a.effect.delta) b.effect.delta)) n 0=if (rows.all λi=>!(relB q i&&!holdsP ((idx m.constraints i).getD default) (plusP (plusP s a.effect.delta) b.effect.delta)))=true then some (brokenP m q a b s) else some false:=by
  have:=loopF_lall (body:=ref22_Shows.l2 n m q rows s a b (plusP (plusP s a.effect.delta) b.effect.delta)) (l:=rows) (n:=n) (st:=λi=>(i:Int)) (λi=>!(relB q i&&!holdsP ((idx m.constraints i).getD default) (plusP (plusP s a.effect.delta) b.effect.delta))) (some false) (some (brokenP m q a b s)) (λrec i hi=>?_) (λrec=>hend rec) (by omega)
  ·simpa using this
  ·obtain ⟨k,hk,e,-⟩:=hrows _ (ym hi)
   have hc:idx m.constraints rows[i]=some m.constraints[k]:=by rw [e];exact idx_nat hk
   simp only [ref22_Shows.l2,lt_len hi,if_true,idx_nat hi,yj,yw,grd,yf,hc,hcons _ (ym hk),add64_1 (i:=i) (by omega)]
   unfold relB
   cases (q.target.hold||(q.target.index != rows[i]))&&!holdsP m.constraints[k] (plusP (plusP s a.effect.delta) b.effect.delta) <;> simp
 have hloop1:loopF (ref22_Shows.l1 n m q rows s) n 0=some (showsP m q rows a b s):=by
  have:=loopF_g (body:=ref22_Shows.l1 n m q rows s) (len:=rows.length) (st:=λi=>(i:Int)) (g:=λ_=>some (showsP m q rows a b s)) (λrec i hi hr=>?_) (λrec=>?_) n 0 (yv _) (by omega)
  ·simpa using this
  ·obtain ⟨k,hk,e,-⟩:=hrows _ (ym hi)
   simp only [ref22_Shows.l1,lt_len hi,if_true,idx_nat hi,ya,yj,yw,grd,yf,add64_1 (i:=i) (by omega),hr]
   rw [if_neg (by rw [e];simp;omega)]
  ·simp only [ref22_Shows.l1,ge_len,yh,if_false,h.ha,h.hb,ya,rPoss h ham,rPoss h hbm,yj,yw,grd,if_true,yf]
   rw [rPlus h ham h.low.mid rfl,ya,rPlus h hbm (h.low.plus hA.small) (plus_len _ _),ya,hloop2]
   unfold showsP
   generalize (rows.all λi=>!(relB q i&&!holdsP ((idx m.constraints i).getD default) (plusP (plusP s a.effect.delta) b.effect.delta)))=X
   cases possP m a.effect s <;> cases possP m b.effect s <;> cases X <;> simp
 unfold ref22_Shows
 rw [ref16_Total_eq h.valid.lay (by omega),ya,if_neg (by simp [hsl])]
 exact hloop1
theorem Equal_Lint_eq {x y:List Int} (hl:x.length<1000000) (hn:1000000≤n):slices_Equal_Lint_int n x y=some (decide (x=y)):=by
 unfold slices_Equal_Lint_int
 by_cases e:x.length=y.length
 ·rw [if_neg (by simp [e])]
  have:=loopF_g (body:=slices_Equal_Lint_int.l1 n x y) (len:=x.length) (st:=λi=>(i:Int)) (g:=λi=>some (decide (x.drop i=y.drop i))) (λrec i hi hr=>?_) (λrec=>?_) n 0 (yv _) (by omega)
  ·simpa using this
  ·have hi2:i<y.length:=by omega
   simp only [slices_Equal_Lint_int.l1,lt_len hi,if_true,idx_nat hi,idx_nat hi2,ya,add64_1 (i:=i) (by omega),hr]
   have e1:=drop_cons hi
   have e2:=drop_cons hi2
   rw [e1,e2]
   simp only [List.cons.injEq]
   by_cases he:x[i]=y[i]
   ·rw [if_neg (by simp [he])]
    congr 1
    simp only [he,true_and]
   ·rw [if_pos (by simp [he])]
    simp only [he,false_and,decide_false]
  ·have e3:y.drop x.length=[]:=by rw [e];exact List.drop_length
   simp only [slices_Equal_Lint_int.l1,ge_len,yh,if_false,List.drop_length,e3,decide_true]
 ·rw [if_pos (by simp;omega)]
  have:¬ x=y:=λh=>e (by rw [h])
  simp [this]
theorem ranges_eq (hF:Fuel n) (hS:SmallM m) (hV:ValidM m):model_Strict n m=some (boxM m):=by
 have h1:=hS.sorts
 have h2:=hS.tables
 unfold model_Strict model_ranges
 rw [model_Valid_eq hF hS,validP_iff.2 hV,ya,if_neg (by simp),cells_Ranges_eq hF (by omega) (by omega) (λt ht=>by have:=(hS.tab t ht).2;omega),if_pos hV.lay]
 rfl
end
def suitP (m:Model) (s:Scenario):Bool:=(validP m&&questP m s.question)&&decide (s.state.length=(boxM m).length)
theorem suits_eq {n:Nat} {m:Model} {s:Scenario} (hF:Fuel n) (hS:SmallM m):scenario_suits n m s=some (suitP m s):=by
 unfold scenario_suits suitP
 rw [symmetry_Valid_eq hF hS,ya]
 cases hv:validP m&&questP m s.question with
 | false=>simp [grd]
 | true=>
  have hV:=validP_iff.1 (by simp only [yc] at hv;exact hv.1:validP m=true)
  rw [ranges_eq hF hS hV]
  simp only [grd,yj,yw,if_true,yf,yB]
  congr 1
  rw [Bool.eq_iff_iff]
  simp
  omega
theorem scene_of {n:Nat} {m:Model} {s:Scenario} (hn:4294967296≤n) (hS:SmallM m) (h:suitP m s=true) (hl:lowS s.state):∃ a b,SceneM n m s.question a b s.state:=by
 simp only [suitP,yc,yd] at h
 obtain ⟨⟨h1,h2⟩,h3⟩:=h
 obtain ⟨q1,q2,-⟩:=questP_spec h2
 obtain ⟨a,ha⟩:=idx_some q1.1 q1.2
 obtain ⟨b,hb⟩:=idx_some q2.1 q2.2
 exact ⟨a,b,hS,validP_iff.1 h1,h2,ha,hb,h3,hl,hn⟩
theorem small24_eq {n:Nat} {x:List Int} (hn:1000000≤n):law24_small n x=some (decide (x.length≤150)&&x.all λv=>decide (-1099511627776≤v)&&decide (v≤1099511627776)):=by
 unfold law24_small
 by_cases hl:x.length≤150
 ·have hd:decide ((x.length:Int)≤150)=true:=by simp;omega
  have hc:=ContainsFunc_Lint_eq (n:=n) (l:=x) (f:=λq0=>law24_small_1 n q0) (p:=λv=>!(decide (-1099511627776≤v)&&decide (v≤1099511627776))) (λv _=>by
   unfold law24_small_1
   congr 1
   rw [Bool.eq_iff_iff]
   simp) (by omega) (by omega)
  rw [hc,hd]
  simp only [grd,yj,yw,if_true,yf,yB,hl,decide_true,any_not]
 ·have hd:decide ((x.length:Int)≤150)=false:=by simp;omega
  rw [hd]
  simp [grd,hl]
theorem low_of {x:List Int} (h:(x.all λv=>decide (-1099511627776≤v)&&decide (v≤1099511627776))=true):lowS x:=λv hv=>by
 have:=yo.1 h v hv
 simpa using this
def actE (m:Model) (s:Scenario):Action:=(idx m.actions s.question.e).getD default
def fA (m:Model) (s:Scenario):Action:=(idx m.actions s.question.f).getD default
def bothP (m:Model) (s:Scenario):List Int:=plusP (plusP s.state (actE m s).effect.delta) (fA m s).effect.delta
theorem scene_at {n:Nat} {m:Model} {s:Scenario} (hn:4294967296≤n) (hS:SmallM m) (h:suitP m s=true) (hl:lowS s.state):SceneM n m s.question (actE m s) (fA m s) s.state:=by
 obtain ⟨a,b,hs⟩:=scene_of hn hS h hl
 have e1:actE m s=a:=by unfold actE;rw [hs.ha];rfl
 have e2:fA m s=b:=by unfold fA;rw [hs.hb];rfl
 rw [e1,e2];exact hs
def validQ (m:Model) (s:Scenario) (rows:List Int):Bool:=suitP m s&&((rows.all λx=>!badR m x)&&showsP m s.question rows (actE m s) (fA m s) s.state)
section
variable {n:Nat} {m:Model} {s:Scenario} {rows:List Int} (hF:Fuel n) (hS:SmallM m) (hl:lowS s.state)
include hF hS hl
theorem sValid_eq (hr:rows.length≤1000):scenario_Valid n m s rows=some (validQ m s rows):=by
 unfold scenario_Valid validQ
 rw [suits_eq hF hS,ya]
 cases h:suitP m s with
 | false=>rfl
 | true=>
  rw [if_neg (by simp),sValid_in (scene_at hF.big hS h hl) hr s rfl rfl]
  rfl
theorem sMerged_eq:scenario_Merged n m s=some (if suitP m s=true then bothP m s else []):=by
 unfold scenario_Merged
 rw [suits_eq hF hS,ya]
 cases h:suitP m s with
 | false=>rfl
 | true=>
  have hsc:=scene_at hF.big hS h hl
  have:=hsc.box
  have:=hsc.len
  have:=hsc.fuel
  rw [if_neg (by simp),sBehind_2 hsc.ha hsc.hb hl.mid (hl.plus hsc.dA.small) (by omega) hsc.dA hsc.dB (by omega),ya,if_pos rfl]
  rfl
omit hF hS hl in
theorem both_len:(bothP m s).length=s.state.length:=by unfold bothP;rw [plus_len,plus_len]
theorem sBrokenQ_eq:scenario_Broken n m s=some (if suitP m s=true then brkP m (bothP m s) else []):=by
 unfold scenario_Broken
 rw [suits_eq hF hS,ya]
 cases h:suitP m s with
 | false=>rfl
 | true=>
  have hsc:=scene_at hF.big hS h hl
  have h1:=hsc.box
  have h2:=hsc.len
  have h3:=hsc.fuel
  have h4:=hS.constraints
  have hbl:(bothP m s).length=s.state.length:=both_len
  rw [if_neg (by simp),sMerged_eq hF hS hl,h,if_pos rfl,ya,sBroken_eq (λc hc=>hsc.con hbl hc) (hl.plus2 hsc.dA.small hsc.dB.small) (by omega) (by omega) (by omega),ya,if_pos rfl]
theorem rMerged_eq:ref24_Merged n m s=some (if suitP m s=true then bothP m s else []):=by
 have hn:=hF.big
 unfold ref24_Merged
 rw [ref16_Valid_eq hn hS,ya]
 unfold suitP
 cases hv:validP m&&questP m s.question with
 | false=>simp [grd]
 | true=>
  have hV:=validP_iff.1 (by simp only [yc] at hv;exact hv.1:validP m=true)
  rw [ref16_Total_eq hV.lay (by omega)]
  simp only [y8,uh,yj,grd,if_true,yf,yB]
  by_cases e:s.state.length=(boxM m).length
  ·have hsu:suitP m s=true:=by unfold suitP;rw [hv];simp [e]
   have hsc:=scene_at hn hS hsu hl
   rw [if_neg (by simp [e]),hsc.ha,ya,rPlus hsc (idx_mem hsc.ha) hl.mid rfl,ya,hsc.hb,ya,rPlus hsc (idx_mem hsc.hb) (hl.plus hsc.dA.small) (plus_len _ _),ya,if_pos (by simpa using e)]
   rfl
  ·rw [if_pos (by simp;omega),if_neg (by simpa using e)]
theorem rBrokenQ_eq:ref24_Broken n m s=some (if suitP m s=true then brkP m (bothP m s) else []):=by
 have hn:=hF.big
 have hm:=rMerged_eq hF hS hl
 unfold ref24_Broken
 rw [ref16_Valid_eq hn hS,ya]
 cases hv:validP m&&questP m s.question with
 | false=>simp [grd,suitP,hv]
 | true=>
  have hV:=validP_iff.1 (by simp only [yc] at hv;exact hv.1:validP m=true)
  rw [ref16_Total_eq hV.lay (by omega)]
  simp only [y8,uh,yj,grd,if_true,yf]
  by_cases e:s.state.length=(boxM m).length
  ·have hsu:suitP m s=true:=by unfold suitP;rw [hv];simp [e]
   have hsc:=scene_at hn hS hsu hl
   have h1:=hsc.box
   have h4:=hS.constraints
   have hbl:(bothP m s).length=s.state.length:=both_len
   rw [if_neg (by simp [e]),hm,if_pos hsu,ya,rBroken_eq (λc hc=>hsc.con hbl hc) (hl.plus2 hsc.dA.small hsc.dB.small).wide (by omega) (by omega) hn,if_pos hsu]
  ·rw [if_pos (by simp;omega),if_neg (by simp [suitP,e])]
theorem rScen_eq (hr:rows.length≤1000) (hgood:(rows.all λx=>!badR m x)=true):ref22_Scenario n m s.question rows s.state=some (suitP m s&&showsP m s.question rows (actE m s) (fA m s) s.state):=by
 have hn:=hF.big
 unfold ref22_Scenario
 rw [ref16_Valid_eq hn hS,ya]
 cases hv:validP m&&questP m s.question with
 | false=>simp [suitP,hv]
 | true=>
  have hV:=validP_iff.1 (by simp only [yc] at hv;exact hv.1:validP m=true)
  rw [if_neg (by simp)]
  by_cases e:s.state.length=(boxM m).length
  ·have hsu:suitP m s=true:=by unfold suitP;rw [hv];simp [e]
   rw [rShows (scene_at hn hS hsu hl) hr hgood,ya,hsu,yB]
  ·have hsu:suitP m s=false:=by unfold suitP;rw [hv];simp [e]
   unfold ref22_Shows
   rw [ref16_Total_eq hV.lay (by omega),ya,if_pos (by simp;omega),hsu,ya,y7]
theorem rValid_eq (hr:rows.length≤1000):ref24_Valid n m s rows=some (validQ m s rows):=by
 have hn:=hF.big
 have hstep:∀ rec (i:Nat) (hi:i<rows.length),ref24_Valid.l1 n m s rows rec (i:Int)=if badR m rows[i]=true then some false else rec ((i+1:Nat):Int):=λrec i hi=>by
  simp only [ref24_Valid.l1,lt_len hi,if_true,idx_nat hi,ya,yj,yw,grd,yf,add64_1 (i:=i) (by omega)]
  unfold badR
  generalize rows[i]=r
  by_cases h0:r<0
  ·simp [h0]
  ·by_cases h1:(m.constraints.length:Int)≤r
   ·simp [h1]
   ·obtain ⟨c,hc⟩:=idx_some (l:=m.constraints) (i:=r) (by omega) (by omega)
    simp only [hc,yj,yw,if_true,yf]
 unfold ref24_Valid validQ
 cases hg:rows.all λx=>!badR m x with
 | true=>
  have:=loopF_g (body:=ref24_Valid.l1 n m s rows) (len:=rows.length) (st:=λi=>(i:Int)) (g:=λ_=>some (suitP m s&&showsP m s.question rows (actE m s) (fA m s) s.state)) (λrec i hi hr=>?_) (λrec=>?_) n 0 (yv _) (by omega)
  ·rw [show ((0:Nat):Int)=0 from rfl] at this
   rw [this];rfl
  ·have:=yo.1 hg _ (ym hi)
   simp only [yA] at this
   rw [hstep rec i hi,this,if_neg (by simp)]
   exact hr
  ·simp only [ref24_Valid.l1,ge_len,yh,if_false,rScen_eq hF hS hl hr hg,ya]
 | false=>
  obtain ⟨k,h1,h2,h3⟩:=bad_ex hg
  have:=loopF_g (body:=ref24_Valid.l1 n m s rows) (len:=k) (st:=λi=>(i:Int)) (g:=λ_=>some false) (λrec i hi hr=>?_) (λrec=>?_) n 0 (yv _) (by omega)
  ·rw [show ((0:Nat):Int)=0 from rfl] at this
   rw [this];simp
  ·rw [hstep rec i (by omega),h3 i hi,if_neg (by simp)]
   exact hr
  ·rw [hstep rec k h1,h2,if_pos rfl]
end
theorem big1:(1000000:Nat)≤18446744073709551616:=by decide
theorem Forms_law {m:Model} {s:Scenario} {rows:List Int}:law24_ScenarioForms 18446744073709551616 m s rows=some true:=by
 unfold law24_ScenarioForms
 simp only [awake_spec,ya,y8,yh,if_false,ref13_Few_eq big1]
 cases hf:fewP m with
 | false=>simp [grd]
 | true=>
  have hS:=fewP_small hf
  rw [small24_eq big1]
  simp only [y8,uh,yj,yw,grd,if_true,yf]
  by_cases hsm:(decide (s.state.length≤150)&&s.state.all λv=>decide (-1099511627776≤v)&&decide (v≤1099511627776))=true
  ·by_cases hr:50<(rows.length:Int)
   ·rw [if_pos (by simp [hr])]
   ·have e1:=hsm
    rw [yc] at hsm
    have hl:=low_of hsm.2
    have h150:s.state.length≤150:=by simpa using hsm.1
    have hml:(if suitP m s=true then bothP m s else []).length<1000000:=by
     have:=both_len (m:=m) (s:=s)
     split
     ·omega
     ·simp
    have hbl:(if suitP m s=true then brkP m (bothP m s) else []).length<1000000:=by
     have h4:=hS.constraints
     have:=raisedP_len (λi=>!holdsP ((idx m.constraints i).getD default) (bothP m s)) m.constraints.length 0
     unfold brkP
     split
     ·omega
     ·simp
    rw [if_neg (by rw [e1];simp;omega),sValid_eq fuel_N hS hl (by omega),ya,rValid_eq fuel_N hS hl (by omega),ya]
    simp only [sMerged_eq fuel_N hS hl,rMerged_eq fuel_N hS hl,sBrokenQ_eq fuel_N hS hl,rBrokenQ_eq fuel_N hS hl,yj,yw,grd,if_true,yf,Equal_Lint_eq hml big1,Equal_Lint_eq hbl big1,uJ,decide_true,uK]
  ·simp only [yE] at hsm
   rw [hsm]
   simp
theorem closed15:joinedFacts Tryz.pinned.checked.prog 3 Tryz.f3 (OpenSpec.ofChange Rows.scenarioFormsSpec).bare Rows.scenarioFormsRow=true:=by
 unfold joinedFacts
 simp only [yc]
 repeat' apply And.intro
 all_goals as_aux_lemma=>kernel_rfl
section
open Go.ChangeShapes Go.WideShapes Go.ChangeAt Go.RowKit
theorem own:ownKnob Tryz.prog.godebug=none:=by kernel_rfl
theorem laidOut:laidOutB Tryz.prog=true:=by kernel_rfl
set_option maxRecDepth 100000 in
theorem contract15 (H:Type) (enc:TypeId×Value→H) (W:World) (base:Nat) (args:Array Value) (ds gs:List (DataW H)) (before:List MemPlace)
  (hval:∀ (j:Nat) t v,Tryz.f3.params[j]? = some t→args[j]? = some v→Value.okWide Tryz.prog W .any base t v)
  (hW:DataW.Whole enc Tryz.prog Tryz.f3.params.toList Rows.scenarioFormsSpec.vars false W args.toList ds gs before) (hL:laidMetH Tryz.prog Rows.scenarioFormsRow.laid W) (hS:W.ShapedOpen Tryz.prog) :
  Calls Tryz.prog 3 args W λe W'=>∃ v,e = .returned v∧Rows.scenarioFormsSpec.post enc Tryz.prog Tryz.f3 false true false false W args v W':=by
 have hW':=hW
 obtain ⟨p,q,hA0,hV,rfl,hfz,hnd⟩:=hW
 have hA:DataW.TrodAll enc Tryz.prog W 0 (λ_=>true) true Tryz.f3.params.toList args.toList ds p:=hA0
 rw [Tryz.params3] at hA hval
 obtain ⟨v0,vs0,d0,ds0,p0,q0,hargs,rfl,rfl,h0,r0⟩:=trodAll_cons hA
 obtain ⟨v1,vs1,d1,ds1,p1,q1,rfl,rfl,rfl,h1,r1⟩:=trodAll_cons r0
 obtain ⟨v2,vs2,d2,ds2,p2,q2,rfl,rfl,rfl,h2,r2⟩:=trodAll_cons r1
 obtain ⟨rfl,rfl,rfl⟩:=trodAll_nil r2
 obtain rfl:args = #[v0,v1,v2]:=by cases args;simp_all
 obtain ⟨rfl,rfl⟩:=trodVars_none hV
 obtain ⟨a0,k0⟩:=dModel.of_arg (hval 0 _ v0 rfl rfl) h0
 obtain ⟨a1,k1⟩:=dScen.of_arg (hval 1 _ v1 rfl rfl) h1
 obtain ⟨a2,k2⟩:=dInts.of_arg (hval 2 _ v2 rfl rfl) h2
 obtain ⟨E,hE⟩:=glob_ok hL hS
 have hrun:=(@law24_ScenarioForms_ok E _ a0 a1 a2 true Forms_law).run Noneof W #[v0,v1,v2] (λ_ h=>h.elim) hE (by
  simp only [D.reps]
  exact ⟨v0,_,rfl,k0,v1,_,rfl,k1,v2,_,rfl,k2,rfl⟩)
 refine hrun.mono λe W' ⟨u,he,hf,hu⟩=>?_
 simp only [D.rep] at hu
 subst hu
 subst he
 refine ⟨_,rfl,post_kept hW' rfl rfl rfl laidOut (λt ht=>?_) hf (λ_ _ _=>trodAll_cons_mk (shut_bool Tryz.underlying4 _) trodAll_mk0)⟩
 rw [Tryz.params3] at ht
 have hall:([30,36,22].all λt=>Tryz.prog.readableRec t&&decide (t<Tryz.prog.types.size))=true:=by kernel_rfl
 have:=yo.1 hall t (by simpa using ht)
 simpa using this
theorem reads15 (os:Os) {H:Type} (enc:TypeId×Value→H):∃ places,DataW.whole enc Tryz.prog ((World.laidAll Tryz.prog os Rows.scenarioFormsRow.laid).forCall (λ_ _=>0) ⟨#[],#[.agg #[.slice none 0 0,.slice none 0 0,.slice none 0 0,.slice none 0 0,.slice none 0 0,.slice none 0 0,.slice none 0 0],.agg #[.int .i64 0,.int .i64 0,.bool false,.int .i64 0,.slice none 0 0],.slice none 0 0],[]⟩).memory Tryz.f3.params.toList Rows.scenarioFormsSpec.vars false
  (#[.agg #[.slice none 0 0,.slice none 0 0,.slice none 0 0,.slice none 0 0,.slice none 0 0,.slice none 0 0,.slice none 0 0],.agg #[.int .i64 0,.int .i64 0,.bool false,.int .i64 0,.slice none 0 0],.slice none 0 0]:Array Value).toList 8 =
  some ([.agg [.nil,.nil,.nil,.nil,.nil,.nil,.nil],.agg [.agg [.lit (.int .i64 0),.lit (.int .i64 0),.agg [.lit (.bool false),.lit (.int .i64 0)]],.nil],.nil],[],places):=
 ⟨[],by kernel_rfl⟩
set_option maxRecDepth 100000 in
theorem lifted15 (os:Os) (started:os.Started) (H:Type) (enc:TypeId×Value→H) (F:Stop.Interp) :
  ReturnsInHanded {} Tryz.checked os 3 .any ((OpenSpec.ofChange Rows.scenarioFormsSpec).preRow enc Tryz.prog Tryz.f3 Rows.scenarioFormsRow.domain false Rows.scenarioFormsRow.laid) (((OpenSpec.ofChange Rows.scenarioFormsSpec).at F).post enc Tryz.prog Tryz.f3 false true false false):=by
 obtain ⟨places,hx⟩:=reads15 os enc
 refine returnsInHanded_of_row (C:=Tryz.checked) (s:=OpenSpec.ofChange Rows.scenarioFormsSpec) own started (by kernel_rfl) Tryz.func3
  (witness_row_atRef (enc:=enc) (C:=Tryz.checked) false (World.laidAll Tryz.prog os Rows.scenarioFormsRow.laid) _ (World.laidAll_os _ _ _) (by kernel_rfl) (by kernel_rfl) (by kernel_rfl)
   (OpenSpec.preRow_of_cond 8 hx (by kernel_rfl) (λk hk=>by cases hk) (by kernel_rfl) (laidMet_laidAll _ (by kernel_rfl) (by kernel_rfl)))) ?_
 intro W base args ds gs before hval hW _ _ _ hL hS _
 exact contract15 H enc W base args ds gs before hval hW hL hS
theorem said15:Rows.ScenarioFormsSaid:=
 OpenClaim.holds_of_cond 3 Tryz.f3 rfl rfl rfl rfl rfl rfl rfl ⟨rfl,rfl,rfl,rfl,rfl⟩ rfl rfl rfl rfl rfl (by kernel_rfl) Tryz.func3 closed15
  (of_decide_eq_true (by kernel_rfl)) (by unfold Func.isWrapper;first | (rw [if_pos (by decide +kernel)];kernel_rfl) | (rw [if_neg (by decide +kernel)];exact ⟨rfl,rfl⟩))
  (λos started H enc _ F=>by rw [OpenClaim.pre_eq_preRow];exact lifted15 os started H enc F)
theorem plain15 (f:FuncId) (fn:Func) (hf:Tryz.pinned.checked.prog.funcNamed Rows.scenarioFormsRow.func=some f) (hfn:Tryz.pinned.checked.prog.funcs[f]? = some fn) :
  true=Tryz.pinned.checked.prog.looks []∧∀ (j:Nat) t,fn.params[j]? = some t→Tryz.pinned.checked.prog.wantsStandIn t=false:=by
 obtain rfl:f=3:=Option.some.inj ((show Tryz.prog.funcNamed Rows.scenarioFormsRow.func=some 3 by kernel_rfl).symm.trans hf) |>.symm
 obtain rfl:fn=Tryz.f3:=(Option.some.inj (Tryz.func3.symm.trans hfn)).symm
 refine ⟨by kernel_rfl,λj t ht=>?_⟩
 rw [Tryz.params3] at ht
 have hall:([30,36,22].all λu=>!Tryz.prog.wantsStandIn u)=true:=by kernel_rfl
 have:=yo.1 hall t (by simpa using Array.mem_of_getElem? ht)
 exact (show Tryz.prog.wantsStandIn t=false by simpa using this)
theorem scenarioForms_holds:Rows.ScenarioFormsCardSaid:=
 Claim7.holds_tied_plain_at .later [] _ _ _ _ said15 (λ_ h=>by cases h) (by kernel_rfl) (λ_ h=>by cases h) scenarioForms_row_tie rfl ⟨rfl,rfl⟩ (by kernel_rfl) rfl plain15 (by kernel_rfl)
end
end Go.Proofs.YtbnhmfnagdgcmaaGreatDoor
