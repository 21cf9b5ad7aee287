/- The law holds for every input. No condition. -/
import Derived.Test.YtcagdmegicijlaaGreatDoorMi06
import Derived.Test.YtcagdmegicijlaaGreatDoorCards
import Derived.Test.YtcagdmegicijlaaGreatDoorTie
import Derived.JoinedCond
import Derived.Deep.DeepWitnessRowRef
import Derived.Lay
import Derived.ProofKit
set_option linter.unusedVariables false
set_option linter.unusedSectionVars false
set_option linter.unusedSimpArgs false
set_option maxHeartbeats 4000000
namespace Go.Proofs.YtcagdmegicijlaaGreatDoor
open Go Go.RowKit
theorem System_if {n:Nat} {m:Model} {q:Question} {rows:List Int} {a b:Action} (hF:Fuel n) (hS:SmallM m) (hV:ValidM m) (hq:zd3 m q=true) (ha:idx m.actions q.e=some a) (hb:idx m.actions q.f=some b) (hK:(boxM m).length≤12) (hl:rows.length≤1000) (hbad:(rows.all λx=>!badR m x)=true) :
  ∃ Y cs,Tgt n m q a b (boxM m) Y cs∧(zcp q a b++Y).length≤30∧(rowsR n m q rows a b).length≤60∧SysOK (rowsR n m q rows a b++(zcp q a b++Y)) (zbe n m q a b) cs ∧
   zc n m q rows=if sysP (boxM m).length (rowsR n m q rows a b++(zcp q a b++Y)) (zbe n m q a b) cs=true then some (⟨boxM m,rowsR n m q rows a b++(zcp q a b++Y),zbe n m q a b,cs⟩,0) else some (⟨[],[],[],[]⟩,8):=by
 have hn:=hF.big;have hn1:1000000≤n:=by omega
 obtain ⟨q1,q2,q3,q4,q5⟩:=zeX hq;have hA:=zgy hS (zaf ha);have hB:=zgy hS (zaf hb);have sA:=zfp hn hS hV (zaf ha);have sB:=zfp hn hS hV (zaf hb);have hC:∀ c∈m.constraints,ConOK (boxM m).length c:=λc hc=>con_ok hS hV hc
 have hgood:=box_good hV.lay;have hcl:=hS.constraints;have hct:∀ c∈m.constraints,c.row.terms.length≤1000:=λc hc=>(hC c hc).len
 rw [System_closed (rows:=rows) hF hS hV hq ha hb hA hB hC hl,if_pos hbad];obtain ⟨Y,cs,hT,hX,hG,hcs,htail⟩:=tail3_eq (n:=n) (m:=m) (q:=q) (box:=boxM m) hA hB hC sA sB (by omega) (by omega) (λh=>⟨q3,q4 h a ha⟩) (λh=>⟨q3,(q5 h).2⟩) hn1;have hshort:=rowsR_short (n:=n) (q:=q) (rows:=rows) (a:=a) (b:=b) hcl hct;have hso:=sysOK_of hshort hX hG hcs;refine ⟨Y,cs,hT,hX.1,hshort.1,hso,?_⟩;rw [htail _ (by have:=hshort.1;omega),system_Valid_eq hgood (by omega) hso hn1];cases sysP (boxM m).length (rowsR n m q rows a b++(zcp q a b++Y)) (zbe n m q a b) cs <;> simp [endS]
theorem State_eq {m s n} {x:List Int} (hn:4294967296≤n) (h:Sym m s) (hb:swpB m s=true) (hx:x.length=(boxM m).length):zcy n m s x=some (stP m s x,true):=by
 have hbl:=box_len h.small h.valid.lay;unfold zcy;rw [Swap_eq hn h.small,zed.2 h.valid,hb,ya,ref16_Total_eq h.valid.lay (by omega)];simp only [uN,y6,uk,yj,grd,if_true,yf];rw [if_neg (by simp [hx])];have:=zE (body:=zcy.l1 n m s x) (len:=x.length) (st:=λi=>(((List.range i).map λi:Nat=>x.getD (mvC m s (i:Int)).toNat 0),(i:Int))) (g:=λ_=>some (stP m s x,true)) (λrec i hi hr=>?_) (λrec=>?_) n 0 (yp _) (by omega)
 ·simpa using this
 ·obtain ⟨⟨c1,c2⟩,-,-⟩:=h.swp.cell (c:=(i:Int)) (by omega) (by omega);have hmv:=h.swp.move (n:=n) (c:=(i:Int)) (by omega) (by omega);simp only [zcy.l1,zk hi,if_true,hmv,ya,getD_idx c1 (by omega:mvC m s (i:Int)<(x.length:Int))];rw [zr (by simp;omega),ya,zb (by omega),← hr];simp only [uA,ul,yP,List.map_nil]
 ·simp only [zcy.l1,zad,ye,if_false];rfl
theorem sysP_parts {K:Nat} {R:List Row} {G:List Graph} {cs:List (List Row)}:sysP K R G cs=true↔(R.length≤1024∧R.all (rowOK K)=true)∧(G.length≤64∧G.all (zbC K)=true)∧(cs.length≤1024∧cs.all (caseV K)=true):=by
 simp only [sysP,yb,yd];constructor
 ·rintro ⟨⟨⟨⟨h1,h2⟩,h3⟩,h4⟩,h5,h6⟩;exact ⟨⟨h1,h2⟩,⟨h3,h5⟩,h4,h6⟩
 ·rintro ⟨⟨h1,h2⟩,⟨h3,h5⟩,h4,h6⟩;exact ⟨⟨⟨⟨h1,h2⟩,h3⟩,h4⟩,h5,h6⟩
theorem Mirror_core {n:Nat} {m:Model} {s:Swap} {q p:Question} {a b:Action} {rows:List Nat} (hF:Fuel n) (h:Sym m s) (hb:swpB m s=true) (hq:zd3 m q=true) (ha:idx m.actions q.e=some a) (hbq:idx m.actions q.f=some b) (hK:(boxM m).length≤12) (hl:rows.length≤1000)
  (hbad:∀ i∈rows,i<m.constraints.length∧(conAt m i).kind=0) (hcnt:zdh (boxM m)<n) (hQ:QMv m s q p a b) {S:System} (hsys:zc n m q (rows.map λi:Nat=>(i:Int))=some (S,0)) :
  ∃ T,zc n m p (rows.map λi=>((sigI m s i:Nat):Int))=some (T,0)∧za9 n m (λq0=>zam n q0 m s S T)=some true:=by
 have hn:=hF.big;have hn1:1000000≤n:=by omega
 have hS:=h.small;have hV:=h.valid;have hgood:=box_good hV.lay;obtain ⟨q1,q2,q3,q4,q5⟩:=zeX hq;obtain ⟨k,l,hk,hl2,hkA,hlB,hkl,htg,hqh,hqc⟩:=hQ.out;have hma:=zaf ha;have hmb:=zaf hbq;have hmA:=yg hk;have hmB:=yg hl2;have hcon:∀ i,i<m.constraints.length→conAt m i∈m.constraints:=λi hi=>by rw [zbA hi];exact yg hi
 have hpq:zd3 m p=true∧∃ a' b',idx m.actions p.e=some a'∧idx m.actions p.f=some b'∧((a'=m.actions[k]∧b'=m.actions[l])∨(a'=m.actions[l]∧b'=m.actions[k]))∧(q.target.hold=true→a'=m.actions[k]∧b'=m.actions[l])∧(q.e=q.f→p.e=p.f):=by
  cases hh:q.target.hold with
  | true=>
   obtain ⟨e1,e2⟩:=hqh hh;obtain ⟨r,r1,r2⟩:=htg.row hh;have hph:p.target.hold=true:=by rw [htg.hold,hh]
   have hpi:0≤p.target.index∧p.target.index<(m.actions[k].effect.hold.length:Int):=by
    obtain ⟨t,t1,t2,-⟩:=idxS r2;rw [t1];omega
   refine ⟨?_,_,_,by rw [e1];exact za hk,by rw [e2];exact za hl2,.inl ⟨rfl,rfl⟩,λ_=>⟨rfl,rfl⟩,λe=>by rw [e1,e2,hkl e]⟩;unfold zd3;rw [hph,e1,e2,za hk];simp only [if_true,yf,yb,yd];omega
  | false=>
   obtain ⟨e0,e12⟩:=hqc hh;obtain ⟨i,hi,i1,i2⟩:=htg.con hh;have hph:p.target.hold=false:=by rw [htg.hold,hh]
   have hsi:=(h.sig hi).1;rcases e12 with ⟨e1,e2⟩ | ⟨e1,e2⟩
   ·refine ⟨?_,_,_,by rw [e1];exact za hk,by rw [e2];exact za hl2,.inl ⟨rfl,rfl⟩,λe=>(by cases e),λe=>by rw [e1,e2,hkl e]⟩;unfold zd3;rw [hph,i2];simp only [ye,if_false,yb,yd];omega
   ·refine ⟨?_,_,_,by rw [e1];exact za hl2,by rw [e2];exact za hk,.inr ⟨rfl,rfl⟩,λe=>(by cases e),λe=>by rw [e1,e2,hkl e]⟩;unfold zd3;rw [hph,i2];simp only [ye,if_false,yb,yd];omega
 obtain ⟨hpq,a',b',ha',hb',hor,hho,hpe⟩:=hpq;have hpair:Pair m s a b m.actions[k] m.actions[l] a' b':=⟨hma,hmb,hmA,hmB,hkA,hlB,hor⟩
 have hab:q.e=q.f→a=b:=λe=>by
  rw [e,hbq] at ha;exact (Option.some.inj ha).symm
 have hrl:∀ i∈rows,i<m.constraints.length:=λi hi=>(hbad i hi).1
 have hbad1:((rows.map λi:Nat=>(i:Int)).all λx=>!badR m x)=true:=by
  rw [List.all_map,yi];intro i hi;obtain ⟨h1,h2⟩:=hbad i hi;rw [zbA h1] at h2;simp only [Function.comp_apply,badR,za h1,yf,h2];simp;omega
 have hbad2:((rows.map λi=>((sigI m s i:Nat):Int)).all λx=>!badR m x)=true:=by
  rw [List.all_map,yi];intro i hi;obtain ⟨h1,h2⟩:=hbad i hi;obtain ⟨s1,s2,-⟩:=h.sig h1;rw [h2,zbA s1] at s2;simp only [Function.comp_apply,badR,za s1,yf,s2];simp;omega
 obtain ⟨Y,cs,hT,hY,hR,hso,hres⟩:=System_if hF hS hV hq ha hbq hK (by simpa using hl) hbad1;obtain ⟨Y',cs',hT',hY',hR',hso',hres'⟩:=System_if hF hS hV hpq ha' hb' hK (rows:=rows.map λi=>((sigI m s i:Nat):Int)) (by simpa using hl) hbad2;rw [hsys] at hres;by_cases hP:sysP (boxM m).length (rowsR n m q (rows.map λi:Nat=>(i:Int)) a b++(zcp q a b++Y)) (zbe n m q a b) cs=true
 case neg=>
  rw [if_neg hP] at hres;cases hres
 rw [if_pos hP] at hres;have hSe:=congrArg Prod.fst (Option.some.inj hres);simp only at hSe;obtain ⟨⟨p1,p2⟩,⟨p3,p4⟩,p5,p6⟩:=sysP_parts.1 hP;rw [List.all_append,List.all_append] at p2;simp only [yb] at p2;have hg:=graphs_mv h hn hpair hpe hab p3 p4;have htt:=tgt_mv h hn hpair htg hho hT hT' p2.2.2 p6;have hhold:(zcp p a' b').all (rowOK (boxM m).length)=true:=by
  unfold zcp;rw [List.all_append,yb];refine ⟨yi.2 (zdG hV (zaf ha')).2,?_⟩;split
  ·exact yi.2 (zdG hV (zaf hb')).2
  ·rfl
 have hP':sysP (boxM m).length (rowsR n m p (rows.map λi=>((sigI m s i:Nat):Int)) a' b'++(zcp p a' b'++Y')) (zbe n m p a' b') cs'=true:=by
  refine sysP_parts.2 ⟨⟨by rw [yI];omega,?_⟩,hg,htt.2⟩;rw [List.all_append,List.all_append,rowsR_mv h hn hpair htg hrl p2.1,hhold,htt.1];rfl
 rw [if_pos hP'] at hres';refine ⟨_,hres',?_⟩;unfold za9;rw [ref22_Box_eq hS hV.lay (by omega),ya,ref17_Least_eq (by omega) (by omega),ya];refine states_all hgood (by omega) (by omega) hcnt λx hx=>?_
 have hxl:=zdM hx;have hx':=stP_box h.swp hx;have sc:Scene n m q a b x:=⟨hS,hV,hq,ha,hbq,hx,by omega,hn⟩
 have sc':Scene n m p a' b' (stP m s x):=⟨hS,hV,hpq,ha',hb',hx',by omega,hn⟩
 have hrow1:∀ i∈(rows.map λi:Nat=>(i:Int)),∃ (k:Nat) (hk:k<m.constraints.length),i=(k:Int)∧m.constraints[k].kind=0:=badR_ok hbad1;have hrow2:∀ i∈(rows.map λi=>((sigI m s i:Nat):Int)),∃ (k:Nat) (hk:k<m.constraints.length),i=(k:Int)∧m.constraints[k].kind=0:=badR_ok hbad2;unfold zam;rw [State_eq hn h hb hxl,ya,hSe,Holds_closed hgood (by omega) hso hP hx hn1,ya,Holds_closed hgood (by omega) hso' hP' hx' hn1,ya,means_iff sc hT hrow1,means_iff sc' hT' hrow2];have hsh:=shows_mv h hma hmb hmA hmB hkA hlB htg (rows:=rows) hrl hxl;have hfin:showsP m p (rows.map λi=>((sigI m s i:Nat):Int)) a' b' (stP m s x)=showsP m q (rows.map λi:Nat=>(i:Int)) a b x:=by
  rw [← hsh];rcases hor with ⟨e1,e2⟩ | ⟨e1,e2⟩
  ·rw [e1,e2]
  ·cases hh:q.target.hold with
   | true=>rw [(hho hh).1,(hho hh).2]
   | false=>rw [e1,e2,shows_swap (by rw [htg.hold,hh])]
 rw [hfin];simp
theorem Mirror_law {m:Model} {s:Swap} {q:Question} {rows:List Int}:zaz 18446744073709551616 m s q rows=some true:=by
 unfold zaz;have hF:=fuel_N;have hn:=hF.big;have hn1:1000000≤18446744073709551616:=by omega
 rw [awake_spec,ref13_Few_eq (by omega)];simp only [ya,y6,ye,if_false];by_cases hfew:(!fewP m||decide (20<(rows.length:Int)))=true
 ·rw [hfew];simp [grd]
 have hfew':=hfew;simp only [yw,yz,yd,not_or,Bool.not_eq_false] at hfew;obtain ⟨hf,hrl⟩:=hfew;have hS:=fewP_small hf;simp only [yC] at hfew';rw [hfew',Holds16_eq hn hS];simp only [yj,yr,grd,if_true,yf,uk];by_cases hsy:((zdY m&&swpB m s)&&symB m s)=true
 case neg=>
  simp only [yC] at hsy;rw [hsy];rfl
 rw [if_neg (by simp [hsy])];have h:=sym_of hS hsy;simp only [yb] at hsy;have hV:=h.valid;have hfp:=hf;simp only [fewP,zcI,hV.lay,if_true,yb,yd] at hfp;have hK:(boxM m).length≤12:=hfp.2.2.1;have hgood:=box_good hV.lay;have hcount:=countB_few hgood (by decide) (by decide) hfp.2.2.2;have hcnt:zdh (boxM m)<18446744073709551616:=by
  have e:zdh (boxM m)=zdh (zA m.sorts true m.tables):=rfl;rw [e];omega
 by_cases hvq:zd3 m q=true
 case neg=>
  simp only [yC] at hvq;have h1:zc 18446744073709551616 m q rows=some (⟨[],[],[],[]⟩,1):=by
   unfold zc;rw [zga hF hS,hsy.1.1,hvq,ya,if_pos (by simp)]
  have h2:zcG 18446744073709551616 m s q=some (⟨0,0,⟨false,0⟩⟩,false):=by
   unfold zcG;rw [Swap_eq hn hS,hsy.1.1,hsy.1.2,ya,ref16_Valid_eq hn hS,hsy.1.1,hvq];simp [grd]
  rw [h1,ya,h2,ya,if_pos (by simp)]
 obtain ⟨q1,q2,q3,q4,q5⟩:=zeX hvq;obtain ⟨a,ha⟩:=zbc q1.1 q1.2;obtain ⟨b,hb⟩:=zbc q2.1 q2.2;obtain ⟨p,ok,hM,hQ⟩:=Move_told (n:=18446744073709551616) hn h hvq ha hb;have hQe:zcG 18446744073709551616 m s q=some (p,ok):=by
  unfold zcG;rw [Swap_eq hn hS,hsy.1.1,hsy.1.2,ya,ref16_Valid_eq hn hS,hsy.1.1,hvq,hM];simp [grd]
 have hsys:=System_told (rows:=rows) hF hS hV hvq ha hb hK (by omega);rcases hsys with ⟨e,h1,h2⟩ | ⟨hbad,Y,cs,hT,hso,hP,h1⟩
 ·rw [h1,ya,hQe,ya,if_pos (by simp [h2])]
 ·rw [hQe];cases ok with
  | false=>rw [h1,ya,ya,if_pos (by simp)]
  | true=>
   have hQm:=hQ rfl;have hbo:=badR_ok hbad;obtain ⟨rn,hrn⟩:∃ rn,rn=rows.map Int.toNat:=⟨_,rfl⟩
   have hrows:rows=rn.map λi:Nat=>(i:Int):=by
    rw [hrn,uK];symm;refine (List.map_congr_left λx hx=>?_).trans (List.map_id _);obtain ⟨k,-,rfl,-⟩:=hbo x hx;simp
   have hbn:∀ i∈rn,i<m.constraints.length∧(conAt m i).kind=0:=λi hi=>by
    obtain ⟨k,hk,e,hk0⟩:=hbo (i:Int) (by rw [hrows];exact yN.2 ⟨i,hi,rfl⟩);obtain rfl:i=k:=by omega
    exact ⟨hk,by rw [zbA hk];exact hk0⟩
   have hlen:rn.length=rows.length:=by rw [hrn];simp
   rw [hrows] at h1;obtain ⟨T,t1,t2⟩:=Mirror_core hF h hsy.1.2 hvq ha hb hK (by omega) hbn hcnt hQm h1;have h1':=h1;rw [← hrows] at h1;rw [h1,ya,ya,if_neg (by simp)];obtain ⟨S,hSd⟩:∃ S,S=(⟨boxM m,rowsR 18446744073709551616 m q (rn.map λi:Nat=>(i:Int)) a b++(zcp q a b++Y),zbe 18446744073709551616 m q a b,cs⟩:System):=⟨_,rfl⟩
   rw [← hSd] at t2;have hS2:(⟨boxM m,rowsR 18446744073709551616 m q rows a b++(zcp q a b++Y),zbe 18446744073709551616 m q a b,cs⟩:System)=S:=by rw [hSd,hrows]
   rw [hS2];have:=loopF_map (body:=zaz.l1 18446744073709551616 m s rows (S,0) (p,true)) (l:=rn) (n:=18446744073709551616) (st:=λb i=>(b,(i:Int))) (λi=>((sigI m s i:Nat):Int)) (λb0=>(zc 18446744073709551616 m p b0).bind λx79_26=>
    grd (!(x79_26.2==0)||(za9 18446744073709551616 m (λq0=>zam 18446744073709551616 q0 m s S x79_26.1)).isSome) <|
    some ((x79_26.2==0)&&((za9 18446744073709551616 m (λq0=>zam 18446744073709551616 q0 m s S x79_26.1)).getD default))) [] (λrec b0 i hi hb0=>?_) (λrec b0 hb0=>?_) (by omega)
   ·rw [show ((0:Nat):Int)=0 from rfl] at this;rw [this,yZ,t1,ya,t2];simp [grd]
   ·have hi':i<rows.length:=by omega
    have hget:rows[i]=((rn[i]:Nat):Int):=by simp [hrows]
    simp only [ux,uz] at hb0;simp only [zaz.l1,zk hi',if_true,za hi',ya,hget,Constraint_eq hn h hsy.1.2 (hbn _ (yg hi)).1];rw [zr (by simp;omega),ya,zb (by omega)]
   ·simp only [zaz.l1,hlen,zad,ye,if_false]
theorem closed7:joinedFacts Tryz.pinned.checked.prog 9 Tryz.f9 (OpenSpec.ofChange Rows.conditionMirrorSpec).bare Rows.conditionMirrorRow=true:=by
 unfold joinedFacts
 simp only [yb]
 repeat' apply And.intro
 all_goals as_aux_lemma=>kernel_rfl
section
open Go.ChangeShapes Go.WideShapes Go.ChangeAt Go.RowKit
theorem own:ownKnob Tryz.prog.godebug=none:=by kernel_rfl
theorem laidOut:laidOutB Tryz.prog=true:=by kernel_rfl
set_option maxRecDepth 100000 in
theorem contract7 (H:Type) (enc:TypeId×Value→H) (W:World) (base:Nat) (args:Array Value) (ds gs:List (DataW H)) (before:List MemPlace)
  (hval:∀ (j:Nat) t v,Tryz.f9.params[j]? = some t→args[j]? = some v→Value.okWide Tryz.prog W .any base t v)
  (hW:DataW.Whole enc Tryz.prog Tryz.f9.params.toList Rows.conditionMirrorSpec.vars false W args.toList ds gs before) (hL:laidMetH Tryz.prog Rows.conditionMirrorRow.laid W) (hS:W.ShapedOpen Tryz.prog) :
  Calls Tryz.prog 9 args W λe W'=>∃ v,e = .returned v∧Rows.conditionMirrorSpec.post enc Tryz.prog Tryz.f9 false true false false W args v W':=by
 have hW':=hW
 obtain ⟨p,q,hA0,hV,rfl,hfz,hnd⟩:=hW
 have hA:DataW.TrodAll enc Tryz.prog W 0 (λ_=>true) true Tryz.f9.params.toList args.toList ds p:=hA0
 rw [Tryz.params9] at hA hval
 obtain ⟨v0,vs0,d0,ds0,p0,q0,hargs,rfl,rfl,h0,r0⟩:=trodAll_cons hA
 obtain ⟨v1,vs1,d1,ds1,p1,q1,rfl,rfl,rfl,h1,r1⟩:=trodAll_cons r0
 obtain ⟨v2,vs2,d2,ds2,p2,q2,rfl,rfl,rfl,h2,r2⟩:=trodAll_cons r1
 obtain ⟨v3,vs3,d3,ds3,p3,q3,rfl,rfl,rfl,h3,r3⟩:=trodAll_cons r2
 obtain ⟨rfl,rfl,rfl⟩:=trodAll_nil r3
 obtain rfl:args = #[v0,v1,v2,v3]:=by cases args;simp_all
 obtain ⟨rfl,rfl⟩:=trodVars_none hV
 obtain ⟨a0,k0⟩:=dModel.of_arg (hval 0 _ v0 rfl rfl) h0
 obtain ⟨a1,k1⟩:=dSwap.of_arg (hval 1 _ v1 rfl rfl) h1
 obtain ⟨a2,k2⟩:=dQuest.of_arg (hval 2 _ v2 rfl rfl) h2
 obtain ⟨a3,k3⟩:=dInts.of_arg (hval 3 _ v3 rfl rfl) h3
 have hrun:=(zfT _ a0 a1 a2 a3 true Mirror_law).run Noneof W #[v0,v1,v2,v3] (λ_ h=>h.elim) (glob_ok hL hS) (by
  simp only [D.reps]
  exact ⟨v0,_,rfl,k0,v1,_,rfl,k1,v2,_,rfl,k2,v3,_,rfl,k3,rfl⟩)
 refine hrun.mono λe W' ⟨u,he,hf,hu⟩=>?_
 simp only [D.rep] at hu
 subst hu
 subst he
 refine ⟨_,rfl,post_kept hW' rfl rfl rfl laidOut (λt ht=>?_) hf (λ_ _ _=>trodAll_cons_mk (shut_bool Tryz.underlying4 _) trodAll_mk0)⟩
 rw [Tryz.params9] at ht
 have hall:([30,67,37,22].all λt=>Tryz.prog.readableRec t&&decide (t<Tryz.prog.types.size))=true:=by kernel_rfl
 have:=yi.1 hall t (by simpa using ht)
 simpa using this
theorem reads7 (os:Os) {H:Type} (enc:TypeId×Value→H):∃ places,DataW.whole enc Tryz.prog ((World.laidAll Tryz.prog os Rows.conditionMirrorRow.laid).forCall (λ_ _=>0) ⟨#[],#[.agg #[.slice none 0 0,.slice none 0 0,.slice none 0 0,.slice none 0 0,.slice none 0 0,.slice none 0 0,.slice none 0 0],.agg #[.int .i64 0,.int .i64 0,.int .i64 0],.agg #[.int .i64 0,.int .i64 0,.bool false,.int .i64 0],.slice none 0 0],[]⟩).memory Tryz.f9.params.toList Rows.conditionMirrorSpec.vars false
  (#[.agg #[.slice none 0 0,.slice none 0 0,.slice none 0 0,.slice none 0 0,.slice none 0 0,.slice none 0 0,.slice none 0 0],.agg #[.int .i64 0,.int .i64 0,.int .i64 0],.agg #[.int .i64 0,.int .i64 0,.bool false,.int .i64 0],.slice none 0 0]:Array Value).toList 8 =
  some ([.agg [.nil,.nil,.nil,.nil,.nil,.nil,.nil],.agg [.lit (.int .i64 0),.lit (.int .i64 0),.lit (.int .i64 0)],.agg [.lit (.int .i64 0),.lit (.int .i64 0),.agg [.lit (.bool false),.lit (.int .i64 0)]],.nil],[],places):=
 ⟨[],by kernel_rfl⟩
set_option maxRecDepth 100000 in
theorem lifted7 (os:Os) (started:os.Started) (H:Type) (enc:TypeId×Value→H) (F:Stop.Interp) :
  ReturnsInHanded {} Tryz.checked os 9 .any ((OpenSpec.ofChange Rows.conditionMirrorSpec).preRow enc Tryz.prog Tryz.f9 Rows.conditionMirrorRow.domain false Rows.conditionMirrorRow.laid) (((OpenSpec.ofChange Rows.conditionMirrorSpec).at F).post enc Tryz.prog Tryz.f9 false true false false):=by
 obtain ⟨places,hx⟩:=reads7 os enc
 refine returnsInHanded_of_row (C:=Tryz.checked) (s:=OpenSpec.ofChange Rows.conditionMirrorSpec) own started (by kernel_rfl) Tryz.func9
  (witness_row_atRef (enc:=enc) (C:=Tryz.checked) false (World.laidAll Tryz.prog os Rows.conditionMirrorRow.laid) _ (World.laidAll_os _ _ _) (by kernel_rfl) (by kernel_rfl) (by kernel_rfl)
   (OpenSpec.preRow_of_cond 8 hx (by kernel_rfl) (λk hk=>by cases hk) (by kernel_rfl) (laidMet_laidAll _ (by kernel_rfl) (by kernel_rfl)))) ?_
 intro W base args ds gs before hval hW _ _ _ hL hS _
 exact contract7 H enc W base args ds gs before hval hW hL hS
theorem said7:Rows.ConditionMirrorSaid:=
 OpenClaim.holds_of_cond 9 Tryz.f9 rfl rfl rfl rfl rfl rfl rfl ⟨rfl,rfl,rfl,rfl,rfl⟩ rfl rfl rfl rfl rfl (by kernel_rfl) Tryz.func9 closed7
  (of_decide_eq_true (by kernel_rfl)) (by unfold Func.isWrapper;first | (rw [if_pos (by decide +kernel)];kernel_rfl) | (rw [if_neg (by decide +kernel)];exact ⟨rfl,rfl⟩))
  (λos started H enc _ F=>by rw [OpenClaim.pre_eq_preRow];exact lifted7 os started H enc F)
theorem plain7 (f:FuncId) (fn:Func) (hf:Tryz.pinned.checked.prog.funcNamed Rows.conditionMirrorRow.func=some f) (hfn:Tryz.pinned.checked.prog.funcs[f]? = some fn) :
  false=Tryz.pinned.checked.prog.looks []∧∀ (j:Nat) t,fn.params[j]? = some t→Tryz.pinned.checked.prog.wantsStandIn t=false:=by
 obtain rfl:f=9:=Option.some.inj ((show Tryz.prog.funcNamed Rows.conditionMirrorRow.func=some 9 by kernel_rfl).symm.trans hf) |>.symm
 obtain rfl:fn=Tryz.f9:=(Option.some.inj (Tryz.func9.symm.trans hfn)).symm
 refine ⟨by kernel_rfl,λj t ht=>?_⟩
 rw [Tryz.params9] at ht
 have hall:([30,67,37,22].all λu=>!Tryz.prog.wantsStandIn u)=true:=by kernel_rfl
 have:=yi.1 hall t (by simpa using Array.mem_of_getElem? ht)
 exact (show Tryz.prog.wantsStandIn t=false by simpa using this)
theorem conditionMirror_holds:Rows.ConditionMirrorCardSaid:=
 Claim7.holds_tied_plain_at .later [] _ _ _ _ said7 (λ_ h=>by cases h) (by kernel_rfl) (λ_ h=>by cases h) conditionMirror_row_tie rfl ⟨rfl,rfl⟩ (by kernel_rfl) rfl plain7 (by kernel_rfl)
end
end Go.Proofs.YtcagdmegicijlaaGreatDoor
