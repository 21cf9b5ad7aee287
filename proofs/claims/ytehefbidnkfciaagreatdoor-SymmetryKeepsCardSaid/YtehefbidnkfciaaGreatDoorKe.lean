/- The law holds for every input. No condition. -/
import Derived.Test.YtehefbidnkfciaaGreatDoorKe06
import Derived.Test.YtehefbidnkfciaaGreatDoorCards
import Derived.Test.YtehefbidnkfciaaGreatDoorTie
import Derived.JoinedCond
import Derived.Deep.DeepWitnessRowRef
import Derived.Lay
import Derived.ProofKit
set_option linter.unusedVariables false
set_option linter.unusedSectionVars false
set_option linter.unusedSimpArgs false
set_option maxHeartbeats 4000000
namespace Go.Proofs.YtehefbidnkfciaaGreatDoor
open Go Go.RowKit
def wideS (x:List Int):Prop:=∀ v∈x,-9223372036854775808≤v∧v≤9223372036854775807
theorem parts64 {x:Int} (h1 : -9223372036854775808≤x) (h2:x≤9223372036854775807):(-2147483648≤x.tdiv 4294967296∧x.tdiv 4294967296≤2147483648)∧(-4294967296≤x.tmod 4294967296∧x.tmod 4294967296≤4294967296)∧x=x.tdiv 4294967296*4294967296+x.tmod 4294967296:=by
 rcases Int.le_total 0 x with h | h
 ·rw [Int.tdiv_eq_ediv_of_nonneg h,Int.tmod_eq_emod_of_nonneg h];omega
 ·obtain ⟨y,rfl⟩:∃ y,x = -y:=⟨-x,by omega⟩
  rw [Int.neg_tdiv,Int.neg_tmod,Int.tdiv_eq_ediv_of_nonneg (by omega),Int.tmod_eq_emod_of_nonneg (by omega)];omega
theorem ref12_smallW {n:Nat} {r:Row} {s:List Int} (ht:∀ t∈r.terms,termOK s.length t) (hl:r.terms.length≤1000) (hs:wideS s) (hb : -4000000000≤r.bound∧r.bound≤4000000000) (hn:1000000≤n):ref12_small n r s=some (decide (sumP s r.terms≤r.bound)):=by
 have:=zbs (body:=ref12_small.l1 n r s) (len:=r.terms.length) (st:=λ(p:Int×Int) i=>(p.1,p.2,(i:Int))) (g:=λ_ _=>some (decide (sumP s r.terms≤r.bound))) (λi p=>p.1*4294967296+p.2+sumP s (r.terms.drop i)=sumP s r.terms∧(-(2147483648000*i:Int)≤p.1∧p.1≤2147483648000*i)∧(-(4294967296000*i:Int)≤p.2∧p.2≤4294967296000*i)) (λrec i p hi hI hr=>?_) (λrec p hI=>?_) n 0 (0,0) (yr _) (by omega) ⟨by simp,by simp,by simp⟩
 ·simpa [ref12_small] using this
 ·obtain ⟨a,b⟩:=p
  obtain ⟨h1,h2,h3⟩:=hI
  simp only [] at h1 h2 h3
  obtain ⟨t1,t2,t3,t4⟩:=ht _ (yj hi)
  have hx:=hs _ (getD_mem t1 t2)
  rw [zh hi,sumP] at h1
  generalize hxv:s.getD r.terms[i].cell.toNat 0=x at *
  have hidx:idx s r.terms[i].cell=some x:=by rw [getD_idx t1 t2,hxv]
  have hq:quo64 x 4294967296=some (x.tdiv 4294967296):=by
   unfold quo64
   rw [if_neg (by decide)]
   have:=(parts64 hx.1 hx.2).1
   rw [zbo (by omega) (by omega)]
  have hr4:rem64 x 4294967296=some (x.tmod 4294967296):=by unfold rem64;rw [if_neg (by decide)]
  obtain ⟨hqb,hrb,hqr⟩:=parts64 hx.1 hx.2
  generalize x.tdiv 4294967296=q at *
  generalize x.tmod 4294967296=m at *
  have m1:=mul_bd t3 t4 hqb.1 hqb.2
  have m2:=mul_bd t3 t4 hrb.1 hrb.2
  have hmul:r.terms[i].factor*x=r.terms[i].factor*q*4294967296+r.terms[i].factor*m:=by
   rw [hqr,Int.mul_add,Int.mul_assoc]
  rw [hmul] at h1
  have e1:mul64 r.terms[i].factor q=r.terms[i].factor*q:=by unfold mul64;exact zbo (by omega) (by omega)
  have e2:mul64 r.terms[i].factor m=r.terms[i].factor*m:=by unfold mul64;exact zbo (by omega) (by omega)
  have hlen:(i:Int)≤1000:=by omega
  have e3:add64 a (r.terms[i].factor*q)=a+r.terms[i].factor*q:=by unfold add64;exact zbo (by omega) (by omega)
  have e4:add64 b (r.terms[i].factor*m)=b+r.terms[i].factor*m:=by unfold add64;exact zbo (by omega) (by omega)
  simp only [ref12_small.l1,zl hi,if_true,za hi,ya,hidx,hq,hr4,e1,e2,e3,e4,zc (i:=i) (by omega)]
  exact hr (a+r.terms[i].factor*q,b+r.terms[i].factor*m) ⟨by simp only [];omega,by simp only [];omega,by simp only [];omega⟩
 ·obtain ⟨a,b⟩:=p
  obtain ⟨h1,h2,h3⟩:=hI
  simp only [List.drop_length,sumP,Int.add_zero] at h1 h2 h3
  have hlen:(r.terms.length:Int)≤1000:=by omega
  have s1:shrO .i64 b 32=some (b / 4294967296):=by
   unfold shrO
   rw [if_neg (by decide),Int.fdiv_eq_ediv_of_nonneg _ (by decide)]
   rfl
  have s2:shrO .i64 r.bound 32=some (r.bound / 4294967296):=by
   unfold shrO
   rw [if_neg (by decide),Int.fdiv_eq_ediv_of_nonneg _ (by decide)]
   rfl
  have e3:add64 a (b / 4294967296)=a+b / 4294967296:=by unfold add64;exact zbo (by omega) (by omega)
  simp only [ref12_small.l1,zaj,yf,if_false,s1,s2,ya,e3,band_low (x:=b) (by omega) (by omega),band_low (x:=r.bound) (by omega) (by omega),yi]
  rw [Bool.eq_iff_iff]
  simp only [yz,yb,yd,beq_iff_eq]
  omega
theorem HoldsW_eq {n c s} (hC:ConIn c s.length) (hs:wideS s) (hl:s.length≤1000) (hn:4294967296≤n):ref14_Holds n c s=some (zaR c s):=by
 unfold ref14_Holds ref12_Holds zaR
 cases hC with
 | row hk ht htl hb=>
  have hin:zay n c (s.length:Int)=some true:=by
   unfold zay
   rw [if_neg (by simp [hk])]
   have:=zJ (body:=zay.l1 n c (s.length:Int)) (len:=c.row.terms.length) (st:=λi=>(i:Int)) (g:=λ_=>some true) (λrec i hi hr=>?_) (λrec=>?_) n 0 (yr _) (by omega)
   ·simpa using this
   ·obtain ⟨t1,t2,-⟩:=ht _ (yj hi)
    have h1:decide (c.row.terms[i].cell<0)=false:=by simp;omega
    have h2:decide ((s.length:Int)≤c.row.terms[i].cell)=false:=by simp;omega
    simp only [zay.l1,zl hi,if_true,za hi,ya,yk,yC,grd,yh,h1,h2,Bool.or_self,yf,if_false,zc (i:=i) (by omega),hr]
   ·simp [zay.l1,hk]
  have hk1:¬ c.kind=1:=by omega
  rw [hin,ya,if_neg (by simp),if_neg (by simp [hk]),ref12_smallW ht htl hs hb (by omega),if_neg hk1]
  rfl
 | graph size hk hsz h1 h6 h0 hf=>
  have hG:GraphIn c s size:=⟨hsz,h1,h6,h0,hf,hl⟩
  obtain ⟨l,hc1,hc2⟩:=Cycle_eq hk hG hn
  have hin:zay n c (s.length:Int)=some true:=by
   have hsq:((size*size:Nat):Int)=(size:Int)*(size:Int):=ud _ _
   have:size*size≤6*6:=uD h6 h6
   unfold zay
   have e1:mul64 c.size c.size=((size*size:Nat):Int):=by unfold mul64;rw [hsz,← hsq];exact zbo (by omega) (by omega)
   have e2:sub64 (s.length:Int) ((size*size:Nat):Int)=(s.length:Int) - ((size*size:Nat):Int):=by unfold sub64;exact zbo (by omega) (by omega)
   rw [if_pos (by simp [hk]),e1,e2,hsz]
   simp only [yi,yb,yd]
   omega
  rw [hin,ya,if_neg (by simp),if_pos (by simp [hk]),hc1,if_pos hk,hsz]
  simp only [ya,hc2,yp]
theorem neg_sm {v:Int} (h1 : -9999≤v) (h2:v≤9999):neg64 v = -v:=by unfold neg64;exact zbo (by omega) (by omega)
section
variable {m:Model} (hS:SmallM m) (hV:ValidM m)
include hS hV
theorem box_30:(boxM m).length≤30:=by
 have hc:=hV.cons
 have:=hS.constraints
 simp only [consP,yb,yd] at hc
 unfold boxM
 omega
theorem box_of {x:List Int} (hx:x.length=(boxM m).length) (h:∀ c∈m.constraints,zaR c x=true):inBox (boxM m) x=true:=by
 refine inBox_of hx λj h1 h2=>?_
 have hc:=hV.cons
 simp only [consP,yb,yd] at hc
 have hb:=ym.1 (box_good hV.lay) _ (yj h1)
 simp only [yb,yd] at hb
 have h1':j<(zu m.sorts true m.tables).length:=h1
 have i0:2*j<m.constraints.length:=by omega
 have i1:2*j+1<m.constraints.length:=by omega
 have a0:=allR_0.1 hc.2 (2*j) i0
 have a1:=allR_0.1 hc.2 (2*j+1) i1
 have d0:2*j / 2=j:=by omega
 have d1:(2*j+1) / 2=j:=by omega
 have e0:2*j % 2=0:=by omega
 have e1:(2*j+1) % 2=1:=by omega
 simp only [za i0,yh,conP,yb,d0,h1',decide_true,yW,uf,beq_iff_eq,yd] at a0
 simp only [za i1,yh,conP,yb,d1,h1',decide_true,yW,uf,beq_iff_eq,yd] at a1
 have b0:=h _ (yj i0)
 have b1:=h _ (yj i1)
 have hg:x.getD j 0=x[j]:=by simp [yT,h2]
 rw [holds_row (by omega),a0.2.2] at b0
 rw [holds_row (by omega),a1.2.2] at b1
 simp only [boundRow,d0,d1,e0,e1,if_true,show ¬ (1=0) by omega,if_false,za h1',yh,sumP,yp,hg,yd] at b0 b1
 have hlo:(zu m.sorts true m.tables)[j]=(boxM m)[j]:=rfl
 rw [hlo] at b0 b1
 rw [neg_sm (by omega) (by omega)] at b0
 omega
theorem sound_eq {n:Nat} {x:List Int} (hx:x.length=(boxM m).length) (hw:wideS x) (hn:4294967296≤n):ref14_Valid n m x=some (m.constraints.all λc=>zaR c x):=by
 have hcl:=hS.constraints
 have hb:=box_30 hS hV
 have hstr:ref13_Strict n m=some (boxM m):=by
  unfold ref13_Strict
  rw [ref13_Valid_eq hn hS,validP_iff.2 hV,ya,if_neg (by simp),ref13_strict_eq (by omega) hS,ya]
  unfold strictR boxM
  rw [if_pos hV.lay]
 have hfit:ref14_fits n m x=some true:=by
  unfold ref14_fits
  rw [ref13_Valid_eq hn hS,validP_iff.2 hV,ya,hstr]
  simp [grd,hx]
 have hs:zbD n m x=some (m.constraints.all λc=>zaR c x):=by
  unfold zbD
  have:=zaG (body:=zbD.l1 n m x) (l:=m.constraints) (n:=n) (st:=λi=>(i:Int)) (λc=>zaR c x) (some false) (some true) (λrec i hi=>?_) (λrec=>?_) (by omega)
  ·rw [show ((0:Nat):Int)=0 from rfl] at this
   rw [this]
   cases (m.constraints.all λc=>zaR c x) <;> rfl
  ·have hin:=con_in hS hV (yj hi)
   rw [← hx] at hin
   simp only [zbD.l1,zl hi,if_true,za hi,ya,HoldsW_eq hin hw (by omega) hn,zc (i:=i) (by omega)]
   cases zaR m.constraints[i] x <;> simp
  ·simp only [zbD.l1,zaj,yf,if_false]
 unfold ref14_Valid
 rw [hfit,ya,hs]
 simp [grd]
end
theorem Sum_eq {n:Nat} {r:Row} {x:List Int} (hx:∀ v∈x,-9999≤v∧v≤9999) (ht:∀ t∈r.terms,termOK x.length t) (hl:r.terms.length≤1000) (hn:1000000≤n):ref12_Sum n r x=some (sumP x r.terms):=by
 have:=zbs (body:=ref12_Sum.l1 n r x) (len:=r.terms.length) (st:=λ(a:Int) i=>(a,(i:Int))) (g:=λi a=>some (a+sumP x (r.terms.drop i))) (λi a=>-(9999000*(i:Int))≤a∧a≤9999000*(i:Int)) (λrec i a hi hI hr=>?_) (λrec a hI=>?_) n 0 0 (yr _) (by omega) (by simp)
 ·simpa [ref12_Sum] using this
 ·obtain ⟨t1,t2,t3,t4⟩:=ht _ (yj hi)
  have hv:=hx _ (getD_mem t1 t2)
  have m1:=mul_bd t3 t4 hv.1 hv.2
  rw [zh hi,sumP]
  have hidx:=getD_idx t1 t2
  generalize x.getD r.terms[i].cell.toNat 0=v at *
  have e1:mul64 r.terms[i].factor v=r.terms[i].factor*v:=by unfold mul64;exact zbo (by omega) (by omega)
  have e2:add64 a (r.terms[i].factor*v)=a+r.terms[i].factor*v:=by unfold add64;exact zbo (by omega) (by omega)
  simp only [ref12_Sum.l1,zl hi,if_true,za hi,ya,hidx,e1,e2,zc (i:=i) (by omega)]
  rw [hr _ (by omega)]
  congr 1
  omega
 ·simp only [ref12_Sum.l1,zaj,yf,if_false,List.drop_length,sumP,Int.add_zero]
theorem added_snoc {d:Change} {c:Int}:∀ {l:List Change},(∀ e∈l,e.cell≠d.cell)→addedP (l++[d]) c=if d.cell=c then d.add else addedP l c
 | [],_=>by simp [addedP]
 | e::l,h=>by
  have ih:=added_snoc (d:=d) (c:=c) (l:=l) λx hx=>h x (by simp [hx])
  have he:=h e (by simp)
  rw [uc,addedP,addedP,ih]
  by_cases h1:e.cell=c
  ·rw [if_pos h1,if_pos h1,if_neg (by omega)]
  ·rw [if_neg h1,if_neg h1]
theorem Apply_eq {n:Nat} {x:List Int} {d:List Change} (hx:∀ v∈x,-9999≤v∧v≤9999) (hl:x.length≤1000) (hd:smallD d) (hc:∀ e∈d,0≤e.cell∧e.cell<(x.length:Int)) (hr:d.Pairwise λa b=>a.cell<b.cell) (hdl:d.length≤1000) (hn:1000000≤n):ref14_Apply n x d=some (plusP x d):=by
 unfold ref14_Apply
 rw [zat (by simp;omega),ya,ub]
 have h0:plusP x []=x:=by
  refine list_ext (by rw [plus_len]) λi hi=>?_
  rw [plus_len] at hi
  have:=plus_get (s:=x) (d:=[]) (c:=(i:Int)) (by omega) (by omega)
  rw [yp] at this
  rw [this];simp [addedP]
 have:=zJ (body:=ref14_Apply.l1 n d) (len:=d.length) (st:=λi=>(plusP x (d.take i),(i:Int))) (g:=λ_=>some (plusP x d)) (λrec i hi hr2=>?_) (λrec=>?_) n 0 (yr _) (by omega)
 ·rw [List.take_zero,h0] at this;exact this
 ·obtain ⟨c0,c1⟩:=hc _ (yj hi)
  obtain ⟨c,hcc⟩:=yR c0
  have hcx:c<x.length:=by omega
  have hne:∀ e∈d.take i,e.cell≠d[i].cell:=λe he=>by
   obtain ⟨j,hj,rfl⟩:=List.getElem_of_mem he
   rw [yQ] at hj
   have:=List.pairwise_iff_getElem.1 hr j i (by omega) hi (by omega)
   simp only [List.getElem_take]
   omega
  have hpl:(plusP x (d.take i)).length=x.length:=plus_len _ _
  have hz:addedP (d.take i) (c:Int)=0:=added_none λe he=>by have:=hne e he;omega
  have hg:=plus_get (s:=x) (d:=d.take i) (c:=(c:Int)) (by omega) (by omega)
  rw [yp,hz,Int.add_zero] at hg
  have hgi:idx (plusP x (d.take i)) (c:Int)=some (x.getD c 0):=by
   rw [getD_idx (by omega) (by omega),yp,hg]
  have hv:=hx _ (getD_mem (s:=x) (c:=(c:Int)) (by omega) (by omega))
  rw [yp] at hv
  have hda:=hd _ (yj hi)
  have hadd:add64 (x.getD c 0) d[i].add=x.getD c 0+d[i].add:=by unfold add64;exact zbo (by omega) (by omega)
  simp only [ref14_Apply.l1,zl hi,if_true,jn,za hi,ya,hcc,hpl]
  rw [if_pos (by simp;omega),hgi,ya,ya,hadd,sto_at (by omega),ya,zc (by omega),← hr2]
  congr 2
  refine list_ext (by rw [List.length_set,plus_len,plus_len]) λj hj=>?_
  rw [List.length_set,plus_len] at hj
  have hg2:=plus_get (s:=x) (d:=d.take (i+1)) (c:=(j:Int)) (by omega) (by omega)
  have hg3:=plus_get (s:=x) (d:=d.take i) (c:=(j:Int)) (by omega) (by omega)
  rw [yp] at hg2 hg3
  rw [hg2,yy hi,added_snoc hne,hcc]
  by_cases e:c=j
  ·subst e
   rw [if_pos rfl]
   simp [yT,hpl,hcx]
  ·rw [if_neg (by omega),← hg3]
   simp [yT,List.getElem?_set,e]
 ·simp only [ref14_Apply.l1,zaj,yf,if_false,List.take_length]
section
variable {m:Model} (hS:SmallM m) (hV:ValidM m)
include hS hV
theorem poss_eq {n:Nat} {a:Action} (ha:a∈m.actions) (hR:Rng m) {x:List Int} (hx:x.length=(boxM m).length) (hw:wideS x) (hn:4294967296≤n):ref15_Possible n m a.effect x=some ((m.constraints.all λc=>zaR c x)&&possP m a.effect x):=by
 have hcl:=hS.constraints
 have hb:=box_30 hS hV
 have hval:=sound_eq hS hV hx hw hn
 unfold ref15_Possible ref15_Check
 rw [hval,ya]
 by_cases hall:(m.constraints.all λc=>zaR c x)=true
 ·have hbox:=box_of hS hV hx (ym.1 hall)
  have hsm:=(state_ok hV.lay hbox).small
  have hev:=effV_of hS hV hR ha
  have z1:=hev.sz.delta
  have z2:=hev.sz.hold
  obtain ⟨hsd,-⟩:=act_delta hV ha
  have hcell:=hev.inn.cell
  have hstr:ref13_Strict n m=some (boxM m):=by
   unfold ref13_Strict
   rw [ref13_Valid_eq hn hS,validP_iff.2 hV,ya,if_neg (by simp),ref13_strict_eq (by omega) hS,ya]
   unfold strictR boxM
   rw [if_pos hV.lay]
  have hsound:zaf n m a.effect=some true:=by
   unfold zaf
   rw [hstr,ya]
   have l3:∀ {i:Nat} (hi:i<a.effect.hold.length) {rec:Int→Option Bool},loopF (zaf.l3 n a.effect (boxM m) (i:Int) rec) n 0=rec ((i+1:Nat):Int):=λ{i} hi {rec}=>by
    have hlen:=hev.sz.term _ (yj hi)
    have:=zJ (body:=zaf.l3 n a.effect (boxM m) (i:Int) rec) (len:=a.effect.hold[i].terms.length) (st:=λj=>(j:Int)) (g:=λ_=>rec ((i+1:Nat):Int)) (λrec2 j hj hr=>?_) (λrec2=>?_) n 0 (yr _) (by omega)
    ·exact this
    ·obtain ⟨t1,t2,t3,t4⟩:=(hev.inn.hold _ (yj hi)).term _ (yj hj)
     simp only [zaf.l3,za hi,ya,zl hj,if_true,za hj,zc (i:=j) (by omega)]
     rw [if_neg (by simp;omega)]
     exact hr
    ·simp only [zaf.l3,za hi,ya,zaj,yf,if_false,zc (i:=i) (by omega)]
   have l2:loopF (zaf.l2 n a.effect (boxM m)) n 0=some true:=by
    have:=zJ (body:=zaf.l2 n a.effect (boxM m)) (len:=a.effect.hold.length) (st:=λi=>(i:Int)) (g:=λ_=>some true) (λrec i hi hr=>?_) (λrec=>?_) n 0 (yr _) (by omega)
    ·exact this
    ·simp only [zaf.l2,zl hi,if_true]
     rw [l3 hi];exact hr
    ·simp only [zaf.l2,zaj,yf,if_false]
   have:=zJ (body:=zaf.l1 n a.effect (boxM m)) (len:=a.effect.delta.length) (st:=λi=>(i:Int)) (g:=λ_=>some true) (λrec i hi hr=>?_) (λrec=>?_) n 0 (yr _) (by omega)
   ·exact this
   ·have c1:=hcell _ (yj hi)
    have c2:=hsd _ (yj hi)
    simp only [zaf.l1,zl hi,if_true,za hi,ya,zc (i:=i) (by omega)]
    rw [if_neg (by simp;omega)]
    exact hr
   ·simp only [zaf.l1,zaj,yf,if_false]
    exact l2
  have hplus:wideS (plusP x a.effect.delta):=λv hv=>by
   have:=plus_small (B:=9999) hsm hsd v hv
   omega
  have happ:ref14_Apply n x a.effect.delta=some (plusP x a.effect.delta):=Apply_eq hsm (by omega) hsd (λe he=>by have:=hcell e he;omega) hev.ris (by omega) (by omega)
  have hpl:(plusP x a.effect.delta).length=(boxM m).length:=by rw [plus_len,hx]
  have l2:∃ f:Refusal,loopF (zar.l2 n m (plusP x a.effect.delta)) n 0=some f∧(f.kind==0)=(m.constraints.all λc=>zaR c (plusP x a.effect.delta)):=by
   have:=zbs (σ:=Unit) (body:=zar.l2 n m (plusP x a.effect.delta)) (len:=m.constraints.length) (st:=λ_ i=>(i:Int)) (g:=λi _=>some (match fstP (λj=>!zaR (conAt m j) (plusP x a.effect.delta)) i (m.constraints.length - i) with
    | some j=>(⟨2,(j:Int)⟩:Refusal)
    | none=>⟨0,0⟩)) (λ_ _=>True) (λrec i _ hi _ hr=>?_) (λrec _ _=>?_) n 0 () (yr _) (by omega) trivial
   ·refine ⟨_,this,?_⟩
    rw [Nat.sub_zero]
    cases hf:fstP (λj=>!zaR (conAt m j) (plusP x a.effect.delta)) 0 m.constraints.length with
    | none=>
     have hn:=fstP_none hf
     symm
     refine ym.2 λc hc=>?_
     obtain ⟨j,hj,rfl⟩:=List.getElem_of_mem hc
     have:=hn j (yr _) (by omega)
     simp only [Bool.not_eq_false'] at this
     rw [conAt_eq hj] at this;exact this
    | some j=>
     obtain ⟨⟨-,j1⟩,j2,-⟩:=fstP_some hf
     have hj:j<m.constraints.length:=by omega
     simp only [yG] at j2
     rw [conAt_eq hj] at j2
     symm
     rw [show ((2:Int)==0)=false from rfl,← yD,ym]
     intro hh
     rw [hh _ (yj hj)] at j2;cases j2
   ·have hin:=con_in hS hV (yj hi)
    rw [← hpl] at hin
    simp only [zar.l2,zl hi,if_true,za hi,ya,HoldsW_eq hin hplus (by omega) hn,zc (i:=i) (by omega),hr () trivial]
    rw [show m.constraints.length - i=(m.constraints.length - (i+1))+1 by omega,fstP,conAt_eq hi]
    cases zaR m.constraints[i] (plusP x a.effect.delta) <;> simp
   ·simp [zar.l2,fstP]
  have l1:∃ f:Refusal,zar n m a.effect x=some f∧(f.kind==0)=((a.effect.hold.all λr=>zaR ⟨0,0,r,0,0⟩ x)&&m.constraints.all λc=>zaR c (plusP x a.effect.delta)):=by
   obtain ⟨f,f1,f2⟩:=l2
   unfold zar
   have:=loopF_tot (σ:=Unit) (body:=zar.l1 n m a.effect x) (k:=a.effect.hold.length) (n:=n) (st:=λ_ i=>(i:Int)) (λi _=>∀ r∈a.effect.hold.take i,zaR ⟨0,0,r,0,0⟩ x=true) (λf:Refusal=>(f.kind==0)=((a.effect.hold.all λr=>zaR ⟨0,0,r,0,0⟩ x)&&m.constraints.all λc=>zaR c (plusP x a.effect.delta))) (λrec i _ hi hI hr=>?_) (λrec _ hI=>?_) (by omega) () (by simp)
   ·exact this
   ·have hri:=hev.inn.hold _ (yj hi)
    have hrl:=hev.sz.term _ (yj hi)
    have hsum:=Sum_eq (n:=n) (r:=a.effect.hold[i]) hsm (λt ht=>by have:=hri.term t ht;rw [hx];exact this) (by omega) (by omega)
    have hho:zaR ⟨0,0,a.effect.hold[i],0,0⟩ x=decide (sumP x a.effect.hold[i].terms≤a.effect.hold[i].bound):=holds_row (c:=⟨0,0,a.effect.hold[i],0,0⟩) rfl x
    simp only [zar.l1,zl hi,if_true,za hi,ya,hsum,zc (i:=i) (by omega)]
    by_cases e:a.effect.hold[i].bound<sumP x a.effect.hold[i].terms
    ·rw [if_pos (by simpa using e)]
     refine ⟨_,rfl,?_⟩
     have hnot:(a.effect.hold.all λr=>zaR ⟨0,0,r,0,0⟩ x)=false:=by
      rw [← yD,ym]
      intro hh
      have:=hh _ (yj hi)
      rw [hho,yd] at this
      omega
     rw [hnot];rfl
    ·rw [if_neg (by simpa using e)]
     refine hr () λr hrm=>?_
     rw [yy hi] at hrm
     rcases yF.1 hrm with hrm | hrm
     ·exact hI r hrm
     ·rw [yJ.1 hrm,hho,yd];omega
   ·rw [List.take_length] at hI
    simp only [zar.l1,zaj,yf,if_false,happ,ya]
    refine ⟨f,f1,?_⟩
    rw [f2,ym.2 hI,yB]
  obtain ⟨f,f1,f2⟩:=l1
  rw [hall,if_neg (by simp),hsound,ya,if_neg (by simp),f1,ya,ya]
  congr 1
  have hposs:possP m a.effect x=((a.effect.hold.all λr=>zaR ⟨0,0,r,0,0⟩ x)&&m.constraints.all λc=>zaR c (plusP x a.effect.delta)):=by
   unfold possP
   rw [Bool.and_comm]
   congr 1
   rw [Bool.eq_iff_iff]
   simp only [ym,yb]
   exact ⟨λh c hc=>(h c hc).2,λh c hc=>⟨ym.1 hall c hc,h c hc⟩⟩
  rw [hposs,← f2]
  simp
 ·simp only [yD] at hall
  rw [hall,if_pos (by simp),ya]
  rfl
end
theorem Keeps_law {m:Model} {s:Swap} {k:Int} {x:List Int} (hR:Rng m) (hw:wideS x):law16_SymmetryKeeps 18446744073709551616 m s k x=some true:=by
 unfold law16_SymmetryKeeps
 simp only [awake_spec,ya,yW,yf,if_false,ref13_Few_eq big1]
 cases hf:fewP m with
 | false=>simp [grd]
 | true=>
  have hS:=fewP_small hf
  have hh:=(Holds_both (s:=s) fuel_N big2 hS hR).1
  rw [ref13_Valid_eq big2 hS,hh]
  simp only [yW,uf,yk,yC,grd,if_true,yh]
  by_cases hs:(((validP m&&swpB m s)&&symB m s)=true)∧(0≤k∧k<(m.actions.length:Int))
  ·obtain ⟨hs,hk⟩:=hs
   have h:=sym_of hS hs
   have hV:=h.valid
   have hv:(validP m&&swpB m s)=true:=by simp only [yb] at hs ⊢;exact hs.1
   obtain ⟨i,rfl⟩:=yR hk.1
   have hi:i<m.actions.length:=by omega
   obtain ⟨j,hj,j1,-,j3⟩:=act_two h hR hi
   have hvm:validP m=true:=validP_iff.2 hV
   rw [if_neg (by rw [hs,hvm];simp;omega)]
   by_cases hx:x.length=(boxM m).length
   ·have hst:=wState_eq fuel_N big2 hS x hv hx
    have hac:=wAction_in fuel_N big2 hv hS hR (za hi)
    rw [j1] at hac
    have hw2:wideS (stP m s x):=λv hvv=>by
     unfold stP at hvv
     obtain ⟨c,hc,rfl⟩:=yM.1 hvv
     have hc:=yV.1 hc
     obtain ⟨⟨c1,c2⟩,-,-⟩:=h.swp.cell (c:=(c:Int)) (by omega) (by omega)
     exact hw _ (getD_mem c1 (by omega))
    have hx2:(stP m s x).length=(boxM m).length:=by rw [stP_len,hx]
    have v1:=sound_eq hS hV hx hw big2
    have v2:=sound_eq hS hV hx2 hw2 big2
    have hveq:(m.constraints.all λc=>zaR c (stP m s x))=m.constraints.all λc=>zaR c x:=by
     rw [Bool.eq_iff_iff,ym,ym]
     exact h.cons hx
    have p1:=poss_eq hS hV (yj hi) hR hx hw big2
    have p2:=poss_eq hS hV (yj hj) hR hx2 hw2 big2
    have hp:=(h.act (yj hi) (yj hj) j3 hx).2
    rw [hst,ya,hac,ya,if_neg (by simp),v1,v2,hveq]
    simp only [yW,uf,yk,yC,if_true,yh,uK,Bool.or_false]
    rw [if_neg (by simp;omega),za hi,ya,p1,ya,za hj,ya,p2,ya,hveq,hp]
    simp
   ·have hst:=wState_no fuel_N big2 hS (s:=s) x (λe=>hx e.2)
    have hac:=wAction_in fuel_N big2 hv hS hR (za hi)
    rw [hst,ya,hac,ya,if_pos (by simp),ref16_Total_eq hV.lay big1,ya]
    congr 1
    rw [bne_iff_ne]
    omega
  ·rw [if_pos]
   simp only [yz,yG,yd]
   by_cases h1:((validP m&&swpB m s)&&symB m s)=true
   ·have:¬ (0≤k∧k<(m.actions.length:Int)):=λe=>hs ⟨h1,e⟩
    omega
   ·simp only [yD] at h1
    exact .inl (.inl (.inr h1))
theorem closed10:joinedFacts Tryz.pinned.checked.prog 5 Tryz.f5 (OpenSpec.ofChange Rows.symmetryKeepsSpec).bare Rows.symmetryKeepsRow=true:=by
 unfold joinedFacts
 simp only [yb]
 repeat' apply And.intro
 all_goals as_aux_lemma=>kernel_rfl
theorem dModel_rng {m:Model} (h:dModel.good m):Rng m:=by
 intro a ha u hu
 obtain ⟨x,rfl,-,-,-,-,-,h6,-⟩:=h
 obtain ⟨y,rfl,-,-,h3,-⟩:=h6 a ha
 obtain ⟨z,hz,-,-,h4,-⟩:=h3
 have hu2:u∈z.2.2.1:=by
  have e:y.2.2.1=(⟨z.1,z.2.1,z.2.2.1⟩:Effect):=hz.symm
  have hu3:u∈y.2.2.1.updates:=hu
  rw [e] at hu3;exact hu3
 obtain ⟨v,rfl,-,h5,-⟩:=h4 u hu2
 exact h5
section
open Go.ChangeShapes Go.WideShapes Go.ChangeAt Go.RowKit
theorem own:ownKnob Tryz.prog.godebug=none:=by kernel_rfl
theorem laidOut:laidOutB Tryz.prog=true:=by kernel_rfl
set_option maxRecDepth 100000 in
theorem contract10 (H:Type) (enc:TypeId×Value→H) (W:World) (base:Nat) (args:Array Value) (ds gs:List (DataW H)) (before:List MemPlace)
  (hval:∀ (j:Nat) t v,Tryz.f5.params[j]? = some t→args[j]? = some v→Value.okWide Tryz.prog W .any base t v)
  (hW:DataW.Whole enc Tryz.prog Tryz.f5.params.toList Rows.symmetryKeepsSpec.vars false W args.toList ds gs before) (hL:laidMetH Tryz.prog Rows.symmetryKeepsRow.laid W) (hS:W.ShapedOpen Tryz.prog) :
  Calls Tryz.prog 5 args W λe W'=>∃ v,e = .returned v∧Rows.symmetryKeepsSpec.post enc Tryz.prog Tryz.f5 false true false false W args v W':=by
 have hW':=hW
 obtain ⟨p,q,hA0,hV,rfl,hfz,hnd⟩:=hW
 have hA:DataW.TrodAll enc Tryz.prog W 0 (λ_=>true) true Tryz.f5.params.toList args.toList ds p:=hA0
 rw [Tryz.params5] at hA hval
 obtain ⟨v0,vs0,d0,ds0,p0,q0,hargs,rfl,rfl,h0,r0⟩:=trodAll_cons hA
 obtain ⟨v1,vs1,d1,ds1,p1,q1,rfl,rfl,rfl,h1,r1⟩:=trodAll_cons r0
 obtain ⟨v2,vs2,d2,ds2,p2,q2,rfl,rfl,rfl,h2,r2⟩:=trodAll_cons r1
 obtain ⟨v3,vs3,d3,ds3,p3,q3,rfl,rfl,rfl,h3,r3⟩:=trodAll_cons r2
 obtain ⟨rfl,rfl,rfl⟩:=trodAll_nil r3
 obtain rfl:args = #[v0,v1,v2,v3]:=by cases args;simp_all
 obtain ⟨rfl,rfl⟩:=trodVars_none hV
 obtain ⟨a0,k0,g0⟩:=dModel.of_argG (hval 0 _ v0 rfl rfl) h0
 obtain ⟨a1,k1⟩:=dSwap.of_arg (hval 1 _ v1 rfl rfl) h1
 obtain ⟨a2,k2⟩:=dInt.of_arg (hval 2 _ v2 rfl rfl) h2
 obtain ⟨a3,k3,g3⟩:=dInts.of_argG (hval 3 _ v3 rfl rfl) h3
 have hrun:=(law16_SymmetryKeeps_ok _ a0 a1 a2 a3 true (Keeps_law (dModel_rng g0) g3)).run Noneof W #[v0,v1,v2,v3] (λ_ h=>h.elim) (glob_ok hL hS) (by
  simp only [D.reps]
  exact ⟨v0,_,rfl,k0,v1,_,rfl,k1,v2,_,rfl,k2,v3,_,rfl,k3,rfl⟩)
 refine hrun.mono λe W' ⟨u,he,hf,hu⟩=>?_
 simp only [D.rep] at hu
 subst hu
 subst he
 refine ⟨_,rfl,post_kept hW' rfl rfl rfl laidOut (λt ht=>?_) hf (λ_ _ _=>trodAll_cons_mk (shut_bool Tryz.underlying4 _) trodAll_mk0)⟩
 rw [Tryz.params5] at ht
 have hall:([30,41,3,22].all λt=>Tryz.prog.readableRec t&&decide (t<Tryz.prog.types.size))=true:=by kernel_rfl
 have:=ym.1 hall t (by simpa using ht)
 simpa using this
theorem reads10 (os:Os) {H:Type} (enc:TypeId×Value→H):∃ places,DataW.whole enc Tryz.prog ((World.laidAll Tryz.prog os Rows.symmetryKeepsRow.laid).forCall (λ_ _=>0) ⟨#[],#[.agg #[.slice none 0 0,.slice none 0 0,.slice none 0 0,.slice none 0 0,.slice none 0 0,.slice none 0 0,.slice none 0 0],.agg #[.int .i64 0,.int .i64 0,.int .i64 0],.int .i64 0,.slice none 0 0],[]⟩).memory Tryz.f5.params.toList Rows.symmetryKeepsSpec.vars false
  (#[.agg #[.slice none 0 0,.slice none 0 0,.slice none 0 0,.slice none 0 0,.slice none 0 0,.slice none 0 0,.slice none 0 0],.agg #[.int .i64 0,.int .i64 0,.int .i64 0],.int .i64 0,.slice none 0 0]:Array Value).toList 8 =
  some ([.agg [.nil,.nil,.nil,.nil,.nil,.nil,.nil],.agg [.lit (.int .i64 0),.lit (.int .i64 0),.lit (.int .i64 0)],.lit (.int .i64 0),.nil],[],places):=
 ⟨[],by kernel_rfl⟩
set_option maxRecDepth 100000 in
theorem lifted10 (os:Os) (started:os.Started) (H:Type) (enc:TypeId×Value→H) (F:Stop.Interp) :
  ReturnsInHanded {} Tryz.checked os 5 .any ((OpenSpec.ofChange Rows.symmetryKeepsSpec).preRow enc Tryz.prog Tryz.f5 Rows.symmetryKeepsRow.domain false Rows.symmetryKeepsRow.laid) (((OpenSpec.ofChange Rows.symmetryKeepsSpec).at F).post enc Tryz.prog Tryz.f5 false true false false):=by
 obtain ⟨places,hx⟩:=reads10 os enc
 refine returnsInHanded_of_row (C:=Tryz.checked) (s:=OpenSpec.ofChange Rows.symmetryKeepsSpec) own started (by kernel_rfl) Tryz.func5
  (witness_row_atRef (enc:=enc) (C:=Tryz.checked) false (World.laidAll Tryz.prog os Rows.symmetryKeepsRow.laid) _ (World.laidAll_os _ _ _) (by kernel_rfl) (by kernel_rfl) (by kernel_rfl)
   (OpenSpec.preRow_of_cond 8 hx (by kernel_rfl) (λk hk=>by cases hk) (by kernel_rfl) (laidMet_laidAll _ (by kernel_rfl) (by kernel_rfl)))) ?_
 intro W base args ds gs before hval hW _ _ _ hL hS _
 exact contract10 H enc W base args ds gs before hval hW hL hS
theorem said10:Rows.SymmetryKeepsSaid:=
 OpenClaim.holds_of_cond 5 Tryz.f5 rfl rfl rfl rfl rfl rfl rfl ⟨rfl,rfl,rfl,rfl,rfl⟩ rfl rfl rfl rfl rfl (by kernel_rfl) Tryz.func5 closed10
  (of_decide_eq_true (by kernel_rfl)) (by unfold Func.isWrapper;first | (rw [if_pos (by decide +kernel)];kernel_rfl) | (rw [if_neg (by decide +kernel)];exact ⟨rfl,rfl⟩))
  (λos started H enc _ F=>by rw [OpenClaim.pre_eq_preRow];exact lifted10 os started H enc F)
theorem plain10 (f:FuncId) (fn:Func) (hf:Tryz.pinned.checked.prog.funcNamed Rows.symmetryKeepsRow.func=some f) (hfn:Tryz.pinned.checked.prog.funcs[f]? = some fn) :
  false=Tryz.pinned.checked.prog.looks []∧∀ (j:Nat) t,fn.params[j]? = some t→Tryz.pinned.checked.prog.wantsStandIn t=false:=by
 obtain rfl:f=5:=Option.some.inj ((show Tryz.prog.funcNamed Rows.symmetryKeepsRow.func=some 5 by kernel_rfl).symm.trans hf) |>.symm
 obtain rfl:fn=Tryz.f5:=(Option.some.inj (Tryz.func5.symm.trans hfn)).symm
 refine ⟨by kernel_rfl,λj t ht=>?_⟩
 rw [Tryz.params5] at ht
 have hall:([30,41,3,22].all λu=>!Tryz.prog.wantsStandIn u)=true:=by kernel_rfl
 have:=ym.1 hall t (by simpa using Array.mem_of_getElem? ht)
 exact (show Tryz.prog.wantsStandIn t=false by simpa using this)
theorem symmetryKeeps_holds:Rows.SymmetryKeepsCardSaid:=
 Claim7.holds_tied_plain_at .later [] _ _ _ _ said10 (λ_ h=>by cases h) (by kernel_rfl) (λ_ h=>by cases h) symmetryKeeps_row_tie rfl ⟨rfl,rfl⟩ (by kernel_rfl) rfl plain10 (by kernel_rfl)
end
end Go.Proofs.YtehefbidnkfciaaGreatDoor
