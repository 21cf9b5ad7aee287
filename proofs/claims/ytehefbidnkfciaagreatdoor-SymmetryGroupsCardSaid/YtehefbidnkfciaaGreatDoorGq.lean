/- The law holds for every input. No condition. -/
import Derived.Test.YtehefbidnkfciaaGreatDoorGq06
import Derived.Test.YtehefbidnkfciaaGreatDoorCards
import Derived.Test.YtehefbidnkfciaaGreatDoorTie
import Derived.JoinedCond
import Derived.Deep.DeepWitnessRowRef
import Derived.Lay
import Derived.ProofKit
set_option linter.unusedVariables false
set_option linter.unusedSectionVars false
set_option linter.unusedSimpArgs false
set_option maxHeartbeats 4000000
namespace Go.Proofs.YtehefbidnkfciaaGreatDoor
open Go Go.RowKit
theorem znA {α β:Type} {f:α→List β} {B:Nat}:∀ {l:List α},(∀ x∈l,(f x).length≤B)→(l.flatMap f).length≤l.length*B
 | [],_=>by simp
 | x::l,h=>by
  have ih:=znA (f:=f) (B:=B) (l:=l) λy hy=>h y (by simp [hy])
  have:=h x (by simp)
  rw [uo,yL,yQ,uB]
  omega
theorem zly {α β:Type} {f g:α→List β}:∀ {l:List α},(∀ x∈l,f x=g x)→l.flatMap f=l.flatMap g
 | [],_=>rfl
 | x::l,h=>by rw [uo,uo,h x (by simp),zly λy hy=>h y (by simp [hy])]
def sw1 (m:Model) (i a j:Nat):List Swap:=if symB m ⟨(i:Int),(a:Int),((a+1+j:Nat):Int)⟩=true then [⟨(i:Int),(a:Int),((a+1+j:Nat):Int)⟩] else []
def swA (m:Model) (i a:Nat):List Swap:=(List.range (nK m.sorts (i:Int) - (a+1))).flatMap (sw1 m i a)
def swS (m:Model) (i:Nat):List Swap:=(List.range (nK m.sorts (i:Int))).flatMap (swA m i)
def swAll (m:Model):List Swap:=(List.range m.sorts.length).flatMap (swS m)
theorem zne {m:Model} {i a j:Nat}:(sw1 m i a j).length≤1:=by
 unfold sw1;split <;> simp
theorem znf {m:Model} {i a:Nat} (h:nK m.sorts (i:Int)≤6):(swA m i a).length≤6:=by
 have:=znA (f:=sw1 m i a) (B:=1) (l:=List.range (nK m.sorts (i:Int) - (a+1))) λj _=>zne
 rw [uG] at this
 unfold swA;omega
theorem zng {m:Model} {i:Nat} (h:nK m.sorts (i:Int)≤6):(swS m i).length≤36:=by
 have:=znA (f:=swA m i) (B:=6) (l:=List.range (nK m.sorts (i:Int))) λj _=>znf h
 rw [uG] at this
 unfold swS;omega
theorem zfU {m:Model} (hL:zaN m.sorts m.tables=true) {i:Nat} (hi:i<m.sorts.length):idx m.sorts (i:Int)=some ((nK m.sorts (i:Int):Nat):Int)∧nK m.sorts (i:Int)≤6:=by
 obtain ⟨hs,-,-⟩:=ze4 hL
 have hc:colOK m.sorts (i:Int)=true:=by simp [colOK,hi]
 obtain ⟨k1,k2,k3⟩:=nK_ok hs hc
 rw [zdu hc,← k1]
 exact ⟨rfl,k3⟩
theorem zh0 {m:Model} (hS:SmallM m) (hL:zaN m.sorts m.tables=true):(swAll m).length≤288:=by
 have:=znA (f:=swS m) (B:=36) (l:=List.range m.sorts.length) λj hj=>zng (zfU hL (ua.1 hj)).2
 rw [uG] at this
 have:=hS.sorts
 unfold swAll;omega
theorem zpL {m:Model} (hL:zaN m.sorts m.tables=true) {i a j:Nat} (hi:i<m.sorts.length) (ha:a+1+j<nK m.sorts (i:Int)):swpB m ⟨(i:Int),(a:Int),((a+1+j:Nat):Int)⟩=true:=by
 unfold swpB
 simp only [(zfU hL hi).1,yh,yc,ye]
 omega
theorem zpR {m:Model} {s:Swap} {n:Nat} (h:Swp m s) (hS:SmallM m) (hV:ValidM m) (hR:Rng m) (hn:1000000≤n):zc n ⟨zS m,s⟩=some (symB m s):=by
 have hal:=hS.actions
 have hcl:=hS.constraints
 have l2:loopF (zc.l2 n ⟨zS m,s⟩) n 0=some (allR (λi=>decide ((conAt m i).kind=1)||(fstP (conB m s i) 0 m.constraints.length).isSome) 0 m.constraints.length):=by
  have:=zd0 (body:=zc.l2 n ⟨zS m,s⟩) (len:=m.constraints.length) (n:=n) (st:=λi=>(i:Int)) (λi=>decide ((conAt m i).kind=1)||(fstP (conB m s i) 0 m.constraints.length).isSome) (some false) (some true) (λrec i hi=>?_) (λrec=>?_) (by omega)
  ·rw [show ((0:Nat):Int)=0 from rfl] at this
   rw [this]
   cases allR (λi=>decide ((conAt m i).kind=1)||(fstP (conB m s i) 0 m.constraints.length).isSome) 0 m.constraints.length <;> simp
  ·simp only [zc.l2,show (zS m).m=m from rfl,zn hi,if_true,zni h hS hV hi hn,ya,zd (i:=i) (by omega),conR]
   by_cases hk:(conAt m i).kind=1
   ·simp [hk]
   ·simp only [hk,if_false,decide_false,ue]
    cases fstP (conB m s i) 0 m.constraints.length <;> simp [fstR]
  ·simp only [zc.l2,show (zS m).m=m from rfl,zaq,yf,if_false]
 unfold zc symB
 have:=zaJ (body:=zc.l1 n ⟨zS m,s⟩) (l:=m.actions) (n:=n) (st:=λi=>(i:Int)) (λa=>decide (0≤rhoI m s a)) (some false) (loopF (zc.l2 n ⟨zS m,s⟩) n 0) (λrec i hi=>?_) (λrec=>?_) (by omega)
 ·rw [show ((0:Nat):Int)=0 from rfl] at this
  rw [this,l2]
  cases (m.actions.all λa=>decide (0≤rhoI m s a)) <;> simp
 ·simp only [zc.l1,show (zS m).m=m from rfl,zn hi,if_true,zlY h hS hV hR (za hi) hn,ya,zd (i:=i) (by omega),actR]
  by_cases hr:0≤rhoI m s m.actions[i]
  ·simp [hr]
  ·simp [hr]
 ·simp only [zc.l1,show (zS m).m=m from rfl,zaq,yf,if_false]
def wS (m:Model) (s:Swap):Swapping:=⟨zS m,s⟩
section
variable {m:Model} {n:Nat} (hS:SmallM m) (hV:ValidM m) (hn:1000000≤n)
include hS hV hn
theorem zrs (hR:Rng m) {i a:Nat} (hi:i<m.sorts.length) (ha:a<nK m.sorts (i:Int)) {rec:List Swapping×Int→Option (List Swapping)} {b:List Swapping} (hb:b.length≤1000) :
  loopF (zf.l3 n (zS m) (i:Int) ((nK m.sorts (i:Int):Nat):Int) (a:Int) rec) n (b,((a+1:Nat):Int))=rec (b++(swA m i a).map (wS m),((a+1:Nat):Int)):=by
 have hk:=(zfU hV.lay hi).2
 have:=zfm (body:=zf.l3 n (zS m) (i:Int) ((nK m.sorts (i:Int):Nat):Int) (a:Int) rec) (k:=nK m.sorts (i:Int) - (a+1)) (n:=n) (st:=λb j=>(b,((a+1+j:Nat):Int))) (λj=>(sw1 m i a j).map (wS m)) (λb=>rec (b,((a+1:Nat):Int))) 1 b (λj _=>by rw [yH];exact zne) (λrec2 c j hj hc=>?_) (λrec2 c hc=>?_) (by omega)
 ·rw [ul] at this
  rw [this,swA,List.map_flatMap]
 ·have hh:=zpR (n:=n) ⟨zkq (zpL hV.lay hi (a:=a) (j:=j) (by omega)),hV.lay⟩ hS hV hR hn
  simp only [zf.l3,jn,hh,ya,zgo (show a+1+j<nK m.sorts (i:Int) by omega),if_true,zd (show a+1+j<4611686018427387904 by omega)]
  rw [zam (by simp;omega)]
  unfold sw1
  by_cases e:symB m ⟨(i:Int),(a:Int),((a+1+j:Nat):Int)⟩=true
  ·rw [if_pos e,if_pos e];rfl
  ·rw [if_neg e,if_neg e,List.map_nil,ur];rfl
 ·simp only [zf.l3]
  rw [zeP (by omega),if_neg (by simp),zd (by omega)]
theorem zrr (hR:Rng m) {i:Nat} (hi:i<m.sorts.length) {rec:List Swapping×Int→Option (List Swapping)} {b:List Swapping} (hb:b.length≤500) :
  loopF (zf.l2 n (zS m) (i:Int) rec ((nK m.sorts (i:Int):Nat):Int)) n (b,0)=rec (b++(swS m i).map (wS m),((i+1:Nat):Int)):=by
 have hk:=(zfU hV.lay hi).2
 have hsl:=hS.sorts
 have:=zfm (body:=zf.l2 n (zS m) (i:Int) rec ((nK m.sorts (i:Int):Nat):Int)) (k:=nK m.sorts (i:Int)) (n:=n) (st:=λb j=>(b,(j:Int))) (λa=>(swA m i a).map (wS m)) (λb=>rec (b,((i+1:Nat):Int))) 6 b (λj _=>by rw [yH];exact znf hk) (λrec2 c a ha hc=>?_) (λrec2 c hc=>?_) (by omega)
 ·rw [show ((0:Nat):Int)=0 from rfl] at this
  rw [this,swS,List.map_flatMap]
 ·simp only [zf.l2,zgo ha,if_true,zd (i:=a) (by omega)]
  exact zrs hS hV hn hR hi ha (by omega)
 ·simp only [zf.l2]
  rw [zeP (yn _),if_neg (by simp),zd (by omega)]
theorem zpU (hR:Rng m):zf n (zS m)=some ((swAll m).map (wS m)):=by
 have hsl:=hS.sorts
 have:=zfm (body:=zf.l1 n (zS m)) (k:=m.sorts.length) (n:=n) (st:=λb j=>(b,(j:Int))) (λi=>(if i<m.sorts.length then swS m i else []).map (wS m)) (λb=>some b) 36 [] (λj hj=>by rw [yH,if_pos hj];exact zng (zfU hV.lay hj).2) (λrec c i hi hc=>?_) (λrec c hc=>?_) (by omega)
 ·unfold zf
  rw [show ((0:Nat):Int)=0 from rfl] at this
  rw [this,y9,swAll,List.map_flatMap]
  congr 1
  refine zly λi hi=>?_
  rw [if_pos (ua.1 hi)]
 ·simp only [uA] at hc
  simp only [zf.l1,show (zS m).m=m from rfl,zn hi,if_true,(zfU hV.lay hi).1,ya]
  rw [if_pos hi]
  exact zrr hS hV hn hR hi (by omega)
 ·simp only [zf.l1,show (zS m).m=m from rfl,zaq,yf,if_false]
theorem zri {i a:Nat} (hi:i<m.sorts.length) (ha:a<nK m.sorts (i:Int)) {rec:List Swap×Int→Option (List Swap)} {b:List Swap} (hb:b.length≤1000) :
  loopF (zN.l3 n m (i:Int) (a:Int) rec) n (b,((a+1:Nat):Int))=rec (b++swA m i a,((a+1:Nat):Int)):=by
 have hk:=zfU hV.lay hi
 have:=zfm (body:=zN.l3 n m (i:Int) (a:Int) rec) (k:=nK m.sorts (i:Int) - (a+1)) (n:=n) (st:=λb j=>(b,((a+1+j:Nat):Int))) (sw1 m i a) (λb=>rec (b,((a+1:Nat):Int))) 1 b (λj _=>zne) (λrec2 c j hj hc=>?_) (λrec2 c hc=>?_) (by omega)
 ·rw [ul] at this
  rw [this,swA]
 ·have hh:=zi5 (n:=n) ⟨zkq (zpL hV.lay hi (a:=a) (j:=j) (by omega)),hV.lay⟩ (zib hS hV) (zm1 hS hV) hn
  simp only [zN.l3,jn,hk.1,hh,ya,zgo (show a+1+j<nK m.sorts (i:Int) by omega),if_true,zd (show a+1+j<4611686018427387904 by omega)]
  rw [zam (by simp;omega)]
  unfold sw1
  by_cases e:symB m ⟨(i:Int),(a:Int),((a+1+j:Nat):Int)⟩=true
  ·rw [if_pos e,if_pos e];rfl
  ·rw [if_neg e,if_neg e,ur];rfl
 ·simp only [zN.l3,hk.1,ya]
  rw [zeP (by omega),if_neg (by simp),zd (by omega)]
theorem zrh {i:Nat} (hi:i<m.sorts.length) {rec:List Swap×Int→Option (List Swap)} {b:List Swap} (hb:b.length≤500) :
  loopF (zN.l2 n m (i:Int) rec) n (b,0)=rec (b++swS m i,((i+1:Nat):Int)):=by
 have hk:=zfU hV.lay hi
 have hsl:=hS.sorts
 have:=zfm (body:=zN.l2 n m (i:Int) rec) (k:=nK m.sorts (i:Int)) (n:=n) (st:=λb j=>(b,(j:Int))) (swA m i) (λb=>rec (b,((i+1:Nat):Int))) 6 b (λj _=>znf hk.2) (λrec2 c a ha hc=>?_) (λrec2 c hc=>?_) (by omega)
 ·rw [show ((0:Nat):Int)=0 from rfl] at this
  rw [this,swS]
 ·simp only [zN.l2,hk.1,ya,zgo ha,if_true,zd (i:=a) (by omega)]
  exact zri hS hV hn hi ha (by omega)
 ·simp only [zN.l2,hk.1,ya]
  rw [zeP (yn _),if_neg (by simp),zd (by omega)]
theorem zrg:loopF (zN.l1 n m) n (([]:List Swap),0)=some (swAll m):=by
 have hsl:=hS.sorts
 have:=zfm (body:=zN.l1 n m) (k:=m.sorts.length) (n:=n) (st:=λb j=>(b,(j:Int))) (λi=>if i<m.sorts.length then swS m i else []) (λb=>some b) 36 [] (λj hj=>by rw [if_pos hj];exact zng (zfU hV.lay hj).2) (λrec c i hi hc=>?_) (λrec c hc=>?_) (by omega)
 ·rw [show ((0:Nat):Int)=0 from rfl] at this
  rw [this,y9,swAll]
  congr 1
  refine zly λi hi=>?_
  rw [if_pos (ua.1 hi)]
 ·simp only [uA] at hc
  simp only [zN.l1,zn hi,if_true]
  rw [if_pos hi]
  exact zrh hS hV hn hi (by omega)
 ·simp only [zN.l1,zaq,yf,if_false]
end
theorem zpW {m:Model} {n:Nat} (hF:Fuel n) (hn:4294967296≤n) (hS:SmallM m) (hR:Rng m):zal n m=some (if zbb m=true then swAll m else []):=by
 unfold zal
 rw [zdf hF hS,ya]
 by_cases hv:zbb m=true
 ·have hV:=zcl.1 hv
  have hl:=zh0 hS hV.lay
  rw [if_pos hv,if_pos hv]
  simp only [yW,yf,if_false,ya]
  rw [zpU hS hV (by omega) hR,ya]
  have e:some (swAll m)=some (((swAll m).map (wS m)).map λw=>w.s):=by
   congr 1
   rw [uu]
   exact (List.map_id _).symm
  rw [e]
  refine zfn (l:=(swAll m).map (wS m)) (λw:Swapping=>w.s) _ (λrec b i hi hb=>?_) (λrec=>?_) (by simp;omega)
  ·have:i<(swAll m).length:=by simpa using hi
   simp only [zal.l1,zn hi,if_true,za hi,ya]
   rw [zam (by simp;omega),ya,zd (by omega)]
  ·simp only [zal.l1,zaq,yf,if_false]
 ·rw [if_neg hv,if_neg hv];simp
theorem zkc {m:Model} {n:Nat} (hn:4294967296≤n) (hS:SmallM m):zN n m=some (if zbb m=true then swAll m else []):=by
 unfold zN
 rw [zfa hn hS,ya]
 by_cases hv:zbb m=true
 ·rw [if_neg (by simp [hv]),if_pos hv,zrg hS (zcl.1 hv) (by omega)]
 ·rw [if_pos (by simpa using hv),if_neg hv]
theorem zkp {m:Model} (hS:SmallM m) (hV:ValidM m) {s:Swap} (h:s∈swAll m):Sym m s∧swpB m s=true:=by
 unfold swAll at h
 obtain ⟨i,hi,h1⟩:=uH.1 h
 unfold swS at h1
 obtain ⟨a,ha,h2⟩:=uH.1 h1
 unfold swA at h2
 obtain ⟨j,hj,h3⟩:=uH.1 h2
 have hi:=ua.1 hi
 have ha:=ua.1 ha
 have hj:=ua.1 hj
 unfold sw1 at h3
 by_cases e:symB m ⟨(i:Int),(a:Int),((a+1+j:Nat):Int)⟩=true
 ·rw [if_pos e,yB] at h3
  subst h3
  have hb:=zpL hV.lay (m:=m) (i:=i) (a:=a) (j:=j) hi (by omega)
  exact ⟨⟨hS,hV,zkq hb,e⟩,hb⟩
 ·rw [if_neg e] at h3;simp at h3
def zcA (b:List Way) (q:Question):Bool:=b.any λw=>decide (w.question=q)
def add1 (m:Model) (q:Question) (w:List Swap) (b:List Way) (s:Swap):List Way:=if ((qmv m s q).2&&!zcA b (qmv m s q).1)=true then b++[⟨(qmv m s q).1,w++[s]⟩] else b
def expB (m:Model) (q:Question) (w:List Swap) (S:List Swap) (b:List Way):List Way:=S.foldl (add1 m q w) b
def bfs (m:Model) (S:List Swap):Nat→Nat→List Way→List Way
 | 0,_,b=>b
 | f+1,i,b=>match b[i]? with
  | none=>b
  | some w=>bfs m S f (i+1) (expB m w.question w.swaps S b)
theorem zhA {b:List Way} {q:Question}:zcA b q=true↔q∈b.map (·.question):=by
 simp [zcA]
structure WOK (m:Model) (b:List Way):Prop where
 nd:(b.map (·.question)).Nodup
 val:∀ w∈b,zaK m w.question=true
 way:∀ w∈b,w.swaps.length<b.length
def codeQ (q:Question):Nat:=(q.e.toNat*30+q.f.toNat)*70+(if q.target.hold=true then 60+q.target.index.toNat else q.target.index.toNat)
theorem zm0 {m:Model} (hS:SmallM m) {q:Question} (hq:zaK m q=true):(q.e.toNat<30∧q.f.toNat<30)∧(if q.target.hold=true then 60+q.target.index.toNat else q.target.index.toNat)<70∧(q.target.hold=false→q.target.index.toNat<60):=by
 obtain ⟨q1,q2,q3,q4,q5⟩:=zdi hq
 have h1:=hS.actions
 have h2:=hS.constraints
 refine ⟨by omega,?_,λhh=>by have:=(q5 hh).2;omega⟩
 cases hh:q.target.hold with
 | false=>have:=(q5 hh).2;simp only [yf,if_false];omega
 | true=>
  obtain ⟨a,ha⟩:=zbw q1.1 q1.2
  have:=q4 hh a ha
  have:=(hS.act a (zd5 ha)).2.2.1
  simp only [if_true];omega
theorem zpY {m:Model} (hS:SmallM m) {q p:Question} (hq:zaK m q=true) (hp:zaK m p=true) (e:codeQ q=codeQ p):q=p:=by
 obtain ⟨⟨a1,a2⟩,a3,a4⟩:=zm0 hS hq
 obtain ⟨⟨b1,b2⟩,b3,b4⟩:=zm0 hS hp
 obtain ⟨q1,q2,q3,-,-⟩:=zdi hq
 obtain ⟨p1,p2,p3,-,-⟩:=zdi hp
 unfold codeQ at e
 have h1:q.e.toNat*30+q.f.toNat=p.e.toNat*30+p.f.toNat:=by omega
 have h2:(if q.target.hold=true then 60+q.target.index.toNat else q.target.index.toNat)=(if p.target.hold=true then 60+p.target.index.toNat else p.target.index.toNat):=by omega
 cases hh:q.target.hold with
 | false=>
  cases gg:p.target.hold with
  | false=>
   rw [hh,gg] at h2;simp only [yf,if_false] at h2
   exact zgv (by omega) (by omega) (by rw [hh,gg]) (by omega)
  | true=>
   have:=a4 hh
   rw [hh,gg] at h2;simp only [yf,if_false,if_true] at h2;omega
 | true=>
  cases gg:p.target.hold with
  | false=>
   have:=b4 gg
   rw [hh,gg] at h2;simp only [yf,if_false,if_true] at h2;omega
  | true=>
   rw [hh,gg] at h2;simp only [if_true] at h2
   exact zgv (by omega) (by omega) (by rw [hh,gg]) (by omega)
theorem WOK.len {m:Model} (hS:SmallM m) {b:List Way} (h:WOK m b):b.length≤63000:=by
 have hnd:(b.map λw=>codeQ w.question).Nodup:=by
  have:=h.nd
  unfold List.Nodup at this ⊢
  rw [List.pairwise_map] at this ⊢
  exact List.Pairwise.imp_of_mem (λ{x y} hx hy hxy e=>hxy (zpY hS (h.val x hx) (h.val y hy) e)) this
 have:=zj7 (B:=List.range 63000) hnd λx hx=>by
  obtain ⟨w,hw,rfl⟩:=yO.1 hx
  obtain ⟨⟨a1,a2⟩,a3,-⟩:=zm0 hS (h.val w hw)
  refine ua.2 ?_
  unfold codeQ
  omega
 simpa using this
theorem WOK.one {m:Model} {q:Question} (hq:zaK m q=true):WOK m [⟨q,[]⟩]:=⟨by simp,by simpa using hq,by simp⟩
theorem WOK.add1 {m:Model} {b:List Way} (h:WOK m b) {q:Question} {w:List Swap} (hq:zaK m q=true) (hw:w.length<b.length) (s:Swap):WOK m (add1 m q w b s):=by
 unfold Go.Proofs.YtehefbidnkfciaaGreatDoor.add1
 by_cases hc:((qmv m s q).2&&!zcA b (qmv m s q).1)=true
 ·rw [if_pos hc]
  simp only [yc,yG] at hc
  have hnot:(qmv m s q).1∉b.map (·.question):=λhm=>by
   rw [zhA.2 hm] at hc;exact absurd hc.2 (by simp)
  refine ⟨?_,λx hx=>?_,λx hx=>?_⟩
  ·rw [y8,uM]
   refine ⟨h.nd,by simp,λx hx y hy e=>?_⟩
   simp only [yI,List.map_nil,yB] at hy
   rw [hy] at e
   exact hnot (e▸hx)
  ·rcases yE.1 hx with hx | hx
   ·exact h.val x hx
   ·rw [yB.1 hx];exact zmE hq hc.1
  ·rw [yL,uq]
   rcases yE.1 hx with hx | hx
   ·have:=h.way x hx;omega
   ·rw [yB.1 hx]
    simp only [yL,uq];omega
 ·rw [if_neg hc];exact h
theorem zjm {m:Model} {q:Question} {w:List Swap} {b:List Way} {s:Swap}:∃ e,add1 m q w b s=b++e:=by
 unfold add1
 split
 ·exact ⟨_,rfl⟩
 ·exact ⟨[],by simp⟩
theorem zqF {b e:List Way} {i:Nat} {w:Way} (h:b[i]? = some w):(b++e)[i]? = some w:=by
 have hi:=(yb.1 h).1
 rw [yg hi,h]
theorem zoH {m:Model} {q:Question} {v:List Swap} {b:List Way} {s:Swap} {i:Nat} {w:Way} (h:b[i]? = some w):(add1 m q v b s)[i]? = some w:=by
 obtain ⟨e,he⟩:=zjm (m:=m) (q:=q) (w:=v) (b:=b) (s:=s)
 rw [he];exact zqF h
theorem zpX {m:Model} {q:Question} {v:List Swap} {b:List Way} {s:Swap}:b.length≤(add1 m q v b s).length:=by
 obtain ⟨e,he⟩:=zjm (m:=m) (q:=q) (w:=v) (b:=b) (s:=s)
 rw [he];simp
theorem zlx {m:Model} {q:Question} {w:List Swap} (hq:zaK m q=true):∀ {S:List Swap} {b:List Way},WOK m b→w.length<b.length→WOK m (expB m q w S b)∧∃ e,expB m q w S b=b++e
 | [],b,h,_=>⟨h,[],by simp [expB]⟩
 | s::S,b,h,hw=>by
  obtain ⟨e,he⟩:=zjm (m:=m) (q:=q) (w:=w) (b:=b) (s:=s)
  have hl:=zpX (m:=m) (q:=q) (v:=w) (b:=b) (s:=s)
  obtain ⟨i1,e2,i2⟩:=zlx (w:=w) hq (S:=S) (h.add1 hq hw s) (by omega)
  refine ⟨i1,e++e2,?_⟩
  show expB m q w S (add1 m q w b s)=_
  rw [i2,he,yT]
theorem ziV {m:Model} {b:List Way} (h:WOK m b) {i:Nat} {w:Way} (hw:b[i]? = some w):zaK m w.question=true∧w.swaps.length<b.length:=by
 have hm:w∈b:=yt hw
 exact ⟨h.val w hm,h.way w hm⟩
theorem zpB {n:Nat} {b:List Way} {q:Question} (hl:b.length≤63000) (hn:1000000≤n):zbO n b q=some (zcA b q):=by
 have:=zT (body:=zbO.l1 n b q) (len:=b.length) (st:=λi=>(i:Int)) (g:=λi=>some (zcA (b.drop i) q)) (λrec i hi hr=>?_) (λrec=>?_) n 0 (yp _) (by omega)
 ·simpa [zbO] using this
 ·simp only [zbO.l1,zn hi,if_true,za hi,ya,zd (i:=i) (by omega),hr]
  rw [zh hi]
  unfold zcA
  rw [uL]
  by_cases e:b[i].question=q
  ·rw [if_pos (by simpa using e)];simp [e]
  ·rw [if_neg (by simpa using e)];simp [e]
 ·simp [zbO.l1,zcA]
section
variable {m:Model} {n:Nat} (hS:SmallM m) (hV:ValidM m) (hR:Rng m) (hn:1000000≤n)
include hS hV hR hn
theorem zrk {S:List Swap} {i j:Nat} {b:List Way} {w:Way} {s:Swap} {r:Question×Bool} {k:List Way→Option (List Way)} (h:WOK m b) (hb:b[i]? = some w) (hj:S[j]? = some s) :
  loopF (zaS.l3 n S (i:Int) b (j:Int) k r) n (([]:List Swap),0)=k (b++[⟨r.1,w.swaps++[s]⟩]):=by
 have hl:=h.len hS
 obtain ⟨-,hw⟩:=ziV h hb
 obtain ⟨hi,hbi⟩:=yb.1 hb
 obtain ⟨hjl,hsj⟩:=yb.1 hj
 have ib:idx b (i:Int)=some w:=by rw [za hi,hbi]
 have is:idx S (j:Int)=some s:=by rw [za hjl,hsj]
 refine zfn (l:=w.swaps) id _ (λrec c x hx hc=>?_) (λrec=>?_) (by omega)
 ·simp only [zaS.l3,ib,ya,zn hx,if_true,za hx]
  rw [zam (by simp;omega),ya,zd (by omega)]
  rfl
 ·simp only [zaS.l3,ib,ya,zaq,yf,if_false,is,List.map_id]
  rw [zam (by simp;omega),ya,zam (by simp;omega),ya]
theorem zrj {S:List Swap} (hSw:∀ s∈S,Swp m s) (hSl:S.length≤288) {i:Nat} {rec:List Way×Int→Option (List Way)} {b:List Way} {w:Way} (h:WOK m b) (hb:b[i]? = some w) :
  loopF (zaS.l2 n m S (i:Int) rec) n (b,0)=rec (expB m w.question w.swaps S b,((i+1:Nat):Int)):=by
 obtain ⟨hq,hw⟩:=ziV h hb
 have:=zbi (body:=zaS.l2 n m S (i:Int) rec) (len:=S.length) (st:=λ(c:List Way) j=>(c,(j:Int))) (g:=λj c=>rec (expB m w.question w.swaps (S.drop j) c,((i+1:Nat):Int))) (λj c=>WOK m c∧c[i]? = some w) (λrec2 j c hj hI hr=>?_) (λrec2 c hI=>?_) n 0 b (yp _) (by omega) ⟨h,hb⟩
 ·simpa using this
 ·obtain ⟨I1,I2⟩:=hI
  have hcl:=I1.len hS
  obtain ⟨hi,hbi⟩:=yb.1 I2
  have ib:idx c (i:Int)=some w:=by rw [za hi,hbi]
  have hm:=zpD (n:=n) (hSw _ (yj hj)) hS hV hR hq hn
  have hw2:=(ziV I1 I2).2
  have hnext:=hr (add1 m w.question w.swaps c S[j]) ⟨I1.add1 hq hw2 _,zoH I2⟩
  simp only [zaS.l2,jn,zn hj,if_true,za hj,ib,ya,hm,zpB hcl hn,yk,yC,grd,yh]
  rw [zh hj]
  show _=rec (expB m w.question w.swaps (S.drop (j+1)) (add1 m w.question w.swaps c S[j]),((i+1:Nat):Int))
  rw [← hnext]
  by_cases e:((qmv m S[j] w.question).2&&!zcA c (qmv m S[j] w.question).1)=true
  ·rw [if_pos e,zrk hS hV hR hn I1 I2 (yo hj),zd (by omega)]
   unfold add1
   rw [if_pos e]
  ·rw [if_neg e,zd (by omega)]
   unfold add1
   rw [if_neg e]
 ·have hi:=(yb.1 hI.2).1
  have hcl:=hI.1.len hS
  simp only [zaS.l2,zaq,yf,if_false,List.drop_length,zd (i:=i) (by omega)]
  rfl
theorem zpG {S:List Swap} (hSw:∀ s∈S,Swp m s) (hSl:S.length≤288):∀ (f k i:Nat) (b:List Way),WOK m b→i≤b.length→63000<f+i→f<k→loopF (zaS.l1 n m S) k (b,(i:Int))=some (bfs m S f i b)
 | _,0,_,_,_,_,_,h=>by omega
 | 0,_+1,i,b,h,hi,hf,_=>by have:=h.len hS;omega
 | f+1,k+1,i,b,h,hi,hf,hk=>by
  rw [loopF]
  simp only [zaS.l1]
  rw [bfs]
  by_cases e:i<b.length
  ·rw [if_pos (by simpa using e),yo e]
   have hb:b[i]? = some b[i]:=yo e
   rw [zrj hS hV hR hn hSw hSl h hb]
   obtain ⟨hq,hw⟩:=ziV h hb
   obtain ⟨e1,x,e2⟩:=zlx hq (S:=S) h hw
   exact zpG hSw hSl f k (i+1) _ e1 (by rw [e2,yL];omega) (by omega) (by omega)
  ·rw [if_neg (by simpa using e),List.getElem?_eq_none (by omega)]
end
def waysP (m:Model) (q:Question):List Way:=bfs m (swAll m) 63001 0 [⟨q,[]⟩]
theorem znP {m:Model} {n:Nat} (hS:SmallM m) (hV:ValidM m) (hR:Rng m) (hn:1000000≤n) {q:Question} (hq:zaK m q=true):zaS n m (swAll m) q=some (waysP m q):=
 zpG hS hV hR hn (λs hs=>(zkp hS hV hs).1.swp) (zh0 hS hV.lay) 63001 n 0 _ (WOK.one hq) (by simp) (by omega) (by omega)
def mapW (b:List Way):GMap Question (List Swap):=b.foldl (λmp w=>mp.put w.question w.swaps) GMap.empty
theorem zpf {b:List Way} {w:Way}:mapW (b++[w])=(mapW b).put w.question w.swaps:=by simp [mapW]
theorem zih {κ β:Type} [DecidableEq κ] (k:κ):∀ es:List (Nat×κ×β),(findK k es).map (·.2)=((es.map (·.2)).find? λp=>decide (k=p.1)).map (·.2)
 | []=>rfl
 | e::es=>by
  rw [findK,yI,List.find?_cons]
  by_cases h:k=e.2.1
  ·rw [if_pos h];simp [h]
  ·rw [if_neg h]
   have ih:=zih k es
   simp only [h,decide_false]
   rw [← ih,Option.map_map];rfl
def pairW (w:Way):Question×List Swap:=(w.question,w.swaps)
theorem znH:∀ (b P:List Way) (mp:GMap Question (List Swap)),mp.es.map (·.2)=P.map pairW→((P++b).map (·.question)).Nodup→(b.foldl (λmp w=>mp.put w.question w.swaps) mp).es.map (·.2)=(P++b).map pairW
 | [],P,mp,h,_=>by simpa using h
 | w::b,P,mp,h,hn=>by
  have e3:P++w::b=(P++[w])++b:=by simp
  have hnot:findK w.question mp.es=none:=by
   have hl:=zih w.question mp.es
   rw [h] at hl
   have hf:((P.map pairW).find? λp:Question×List Swap=>decide (w.question=p.1))=none:=by
    rw [List.find?_eq_none]
    intro p hp
    obtain ⟨v,hv,rfl⟩:=yO.1 hp
    simp only [ye]
    rw [y8,uM] at hn
    exact λe=>hn.2.2 _ (yO.2 ⟨v,hv,rfl⟩) _ (yO.2 ⟨w,by simp,rfl⟩) e.symm
   rw [hf] at hl
   cases hx:findK w.question mp.es with
   | none=>rfl
   | some p=>rw [hx] at hl;simp at hl
  rw [List.foldl_cons,e3]
  refine znH b (P++[w]) _ ?_ (by rw [← e3];exact hn)
  unfold GMap.put
  rw [hnot]
  simp only [y8,h,yI,List.map_nil]
  rfl
theorem zpe (b:List Way) (h:(b.map (·.question)).Nodup):(mapW b).es.map (·.2)=b.map pairW:=by
 have:=znH b [] GMap.empty rfl (by simpa using h)
 simpa [mapW] using this
theorem znz {α:Type} {p:α→Bool}:∀ {l:List α},(l.find? p).isSome=l.any p
 | []=>rfl
 | x::l=>by
  rw [List.find?_cons,uL]
  cases h:p x with
  | true=>rfl
  | false=>simp only [ue];exact znz
theorem zlL {b:List Way} (h:(b.map (·.question)).Nodup) (q:Question):(mapW b).get? q=(b.find? λw=>decide (w.question=q)).map (·.swaps):=by
 unfold GMap.get?
 rw [zih,zpe b h]
 clear h
 induction b with
 | nil=>rfl
 | cons w b ih=>
  rw [yI,List.find?_cons,List.find?_cons]
  by_cases e:w.question=q
  ·have e2:decide (q=(pairW w).1)=true:=decide_eq_true e.symm
   rw [e2,decide_eq_true e];rfl
  ·have e2:decide (q=(pairW w).1)=false:=decide_eq_false λh=>e h.symm
   rw [e2,decide_eq_false e]
   exact ih
theorem zmt {b:List Way} (h:(b.map (·.question)).Nodup):(mapW b).es.map (·.2.1)=b.map (·.question):=by
 have e:(mapW b).es.map (·.2.1)=((mapW b).es.map (·.2)).map (·.1):=by rw [uu];rfl
 rw [e,zpe b h,uu]
 rfl
theorem zpg {b:List Way} (h:(b.map (·.question)).Nodup) (q:Question):((mapW b).get? q).isSome=zcA b q:=by
 rw [zlL h,Option.isSome_map,zcA,znz]
theorem zoZ {b:List Way} (h:(b.map (·.question)).Nodup) {w:Way} (hw:w∈b):(b.find? λv=>decide (v.question=w.question))=some w:=by
 induction b with
 | nil=>simp at hw
 | cons v b ih=>
  rw [yI,List.nodup_cons] at h
  rw [List.find?_cons]
  rcases yD.1 hw with rfl | hw
  ·simp
  ·have hne:¬ v.question=w.question:=λe=>h.1 (yO.2 ⟨w,hw,e.symm⟩)
   simp only [hne,decide_false]
   exact ih h.2 hw
section
variable {m:Model} {n:Nat} (hS:SmallM m) (hV:ValidM m) (hR:Rng m) (hn:1000000≤n)
include hS hV hR hn
theorem zrt {S:List Swap} (hSw:∀ s∈S,Swp m s) (hSl:S.length≤288) {i:Nat} {rec:GMap Question (List Swap)×List Question×Nat→Option (GMap Question (List Swap))} {b:List Way} {w:Way} (h:WOK m b) (hb:b[i]? = some w) :
  loopF (zz.l2 n (S.map (wS m)) rec) n (mapW b,(b.drop i).map (·.question),b.length - 1+i,0)=rec (mapW (expB m w.question w.swaps S b),((expB m w.question w.swaps S b).drop (i+1)).map (·.question),(expB m w.question w.swaps S b).length - 1+(i+1)):=by
 obtain ⟨hq,hw⟩:=ziV h hb
 have:=zbi (body:=zz.l2 n (S.map (wS m)) rec) (len:=S.length) (st:=λ(c:List Way) j=>(mapW c,(c.drop i).map (·.question),c.length - 1+i,(j:Int))) (g:=λj c=>rec (mapW (expB m w.question w.swaps (S.drop j) c),((expB m w.question w.swaps (S.drop j) c).drop (i+1)).map (·.question),(expB m w.question w.swaps (S.drop j) c).length - 1+(i+1))) (λj c=>WOK m c∧c[i]? = some w) (λrec2 j c hj hI hr=>?_) (λrec2 c hI=>?_) n 0 b (yp _) (by omega) ⟨h,hb⟩
 ·simpa using this
 ·obtain ⟨I1,I2⟩:=hI
  have hcl:=I1.len hS
  obtain ⟨hi,hbi⟩:=yb.1 I2
  have hjS:j<(S.map (wS m)).length:=by simpa using hj
  have hSj:(S.map (wS m))[j]=⟨zS m,S[j]⟩:=by simp [wS]
  have hd:(c.drop i).map (·.question)=w.question::(c.drop (i+1)).map (·.question):=by
   rw [zh hi,hbi,yI]
  have ih:idx ((c.drop i).map (·.question)) 0=some w.question:=by
   rw [hd];exact za (i:=0) (by simp)
  have hm:=zpT (n:=n) (q:=w.question) (hSw _ (yj hj)) hS hV hR hn
  rw [if_pos hq] at hm
  have hw2:=(ziV I1 I2).2
  have hnext:=hr (add1 m w.question w.swaps c S[j]) ⟨I1.add1 hq hw2 _,zoH I2⟩
  have hget:((mapW c).get? w.question).getD []=w.swaps:=by
   rw [zlL I1.nd,zoZ I1.nd (yt I2)];rfl
  have hdl:((c.drop i).map (·.question)).length≤63000:=by simp;omega
  simp only [zz.l2,jn,zn hjS,if_true,za hjS,hSj,ih,ya,hm,zpg I1.nd,hget]
  rw [zh hj]
  show _=rec (mapW (expB m w.question w.swaps (S.drop (j+1)) (add1 m w.question w.swaps c S[j])),((expB m w.question w.swaps (S.drop (j+1)) (add1 m w.question w.swaps c S[j])).drop (i+1)).map (·.question),(expB m w.question w.swaps (S.drop (j+1)) (add1 m w.question w.swaps c S[j])).length - 1+(i+1))
  rw [← hnext]
  by_cases e:((qmv m S[j] w.question).2&&!zcA c (qmv m S[j] w.question).1)=true
  ·have e2:¬ ((!(qmv m S[j] w.question).2)||zcA c (qmv m S[j] w.question).1)=true:=by
    simp only [yc,yG] at e
    simp [e.1,e.2]
   rw [if_neg e2,zam (by simp;omega),ya,zam (by simp;omega),ya,zam (by simp;omega),ya,zd (by omega)]
   unfold add1
   rw [if_pos e,zpf,List.drop_append_of_le_length (by omega),y8,yL,uq,y9]
   rw [show c.length - 1+i+1=c.length+1 - 1+i by omega]
   rfl
  ·have e2:((!(qmv m S[j] w.question).2)||zcA c (qmv m S[j] w.question).1)=true:=by
    cases h1:(qmv m S[j] w.question).2 <;> cases h2:zcA c (qmv m S[j] w.question).1 <;> simp_all
   rw [if_pos e2,zd (by omega)]
   unfold add1
   rw [if_neg e]
 ·obtain ⟨I1,I2⟩:=hI
  have hcl:=I1.len hS
  obtain ⟨hi,hbi⟩:=yb.1 I2
  have hd:(c.drop i).map (·.question)=w.question::(c.drop (i+1)).map (·.question):=by
   rw [zh hi,hbi,yI]
  simp only [zz.l2]
  rw [show ((S.map (wS m)).length:Int)=(S.length:Int) by simp,if_neg (by simp),hd]
  have hc:=zig (l:=w.question::(c.drop (i+1)).map (·.question)) (a:=1) (by simp)
  rw [show ((1:Nat):Int)=1 from rfl] at hc
  rw [hc,ya,List.drop_length]
  rfl
theorem zpV {S:List Swap} (hSw:∀ s∈S,Swp m s) (hSl:S.length≤288):∀ (f k i:Nat) (b:List Way),WOK m b→i≤b.length→63000<f+i→f<k→loopF (zz.l1 n (S.map (wS m))) k (mapW b,(b.drop i).map (·.question),b.length - 1+i)=some (mapW (bfs m S f i b))
 | _,0,_,_,_,_,_,h=>by omega
 | 0,_+1,i,b,h,hi,hf,_=>by have:=h.len hS;omega
 | f+1,k+1,i,b,h,hi,hf,hk=>by
  rw [loopF]
  simp only [zz.l1]
  rw [bfs]
  by_cases e:i<b.length
  ·rw [if_pos (by simp;omega),yo e]
   have hb:b[i]? = some b[i]:=yo e
   rw [zrt hS hV hR hn hSw hSl h hb]
   obtain ⟨hq,hw⟩:=ziV h hb
   obtain ⟨e1,x,e2⟩:=zlx hq (S:=S) h hw
   exact zpV hSw hSl f k (i+1) _ e1 (by rw [e2,yL];omega) (by omega) (by omega)
  ·rw [if_neg (by simp;omega),List.getElem?_eq_none (by omega)]
theorem zlP {q:Question} (hq:zaK m q=true):zz n (zS m) q=some (mapW (waysP m q)):=by
 unfold zz
 rw [zpU hS hV hn hR,ya]
 exact zpV hS hV hR hn (λs hs=>(zkp hS hV hs).1.swp) (zh0 hS hV.lay) 63001 n 0 _ (WOK.one hq) (by simp) (by omega) (by omega)
end
def goes (m:Model):Question→List Swap→Question→Prop
 | q,[],p=>q=p
 | q,s::l,p=>(qmv m s q).2=true∧goes m (qmv m s q).1 l p
theorem zjN {m:Model} {s:Swap} {p:Question} (h:(qmv m s p).2=true):∀ {l:List Swap} {q:Question},goes m q l p→goes m q (l++[s]) (qmv m s p).1
 | [],q,hg=>by
  simp only [goes] at hg
  subst hg
  exact ⟨h,rfl⟩
 | t::l,q,hg=>⟨hg.1,zjN h (l:=l) hg.2⟩
theorem zk8 {b e:List Way} {q:Question} (h:zcA b q=true):zcA (b++e) q=true:=by
 rw [zhA] at h ⊢
 rw [y8];exact List.mem_append_left _ h
section
variable {m:Model}
theorem zoX {q:Question} {w:List Swap}:∀ (S:List Swap) (c:List Way),∃ e,expB m q w S c=c++e
 | [],c=>⟨[],by simp [expB]⟩
 | t::S,c=>by
  obtain ⟨e,he⟩:=zjm (m:=m) (q:=q) (w:=w) (b:=c) (s:=t)
  obtain ⟨e2,he2⟩:=zoX (q:=q) (w:=w) S (add1 m q w c t)
  refine ⟨e++e2,?_⟩
  show expB m q w S (add1 m q w c t)=_
  rw [he2,he,yT]
theorem zk4 {q:Question} {w:List Swap}:∀ {S:List Swap} {b:List Way} {s:Swap},s∈S→(qmv m s q).2=true→zcA (expB m q w S b) (qmv m s q).1=true
 | t::S,b,s,hs,h2=>by
  show zcA (expB m q w S (add1 m q w b t)) _=true
  rcases yD.1 hs with rfl | hs
  ·have hk:zcA (add1 m q w b s) (qmv m s q).1=true:=by
    unfold add1
    by_cases e:((qmv m s q).2&&!zcA b (qmv m s q).1)=true
    ·rw [if_pos e,zhA];simp
    ·rw [if_neg e]
     cases hx:zcA b (qmv m s q).1 with
     | true=>rfl
     | false=>rw [h2,hx] at e;simp at e
   obtain ⟨e,he⟩:=zoX (m:=m) (q:=q) (w:=w) S (add1 m q w b s)
   rw [he];exact zk8 hk
  ·exact zk4 hs h2
theorem znu {q0 q:Question} {w:List Swap} (hg:goes m q0 w q) {A:List Swap} (hw:∀ s∈w,s∈A):∀ {S:List Swap} {b:List Way},(∀ s∈S,s∈A)→(∀ x∈b,goes m q0 x.swaps x.question∧∀ s∈x.swaps,s∈A)→∀ x∈expB m q w S b,goes m q0 x.swaps x.question∧∀ s∈x.swaps,s∈A
 | [],b,_,hb=>hb
 | t::S,b,hS,hb=>by
  show ∀ x∈expB m q w S (add1 m q w b t),_
  refine znu hg hw (λs hs=>hS s (by simp [hs])) λx hx=>?_
  unfold add1 at hx
  by_cases e:((qmv m t q).2&&!zcA b (qmv m t q).1)=true
  ·rw [if_pos e] at hx
   rcases yE.1 hx with hx | hx
   ·exact hb x hx
   ·rw [yB.1 hx]
    simp only [yc] at e
    refine ⟨zjN e.1 hg,λs hs=>?_⟩
    rcases yE.1 hs with hs | hs
    ·exact hw s hs
    ·rw [yB.1 hs];exact hS t (by simp)
  ·rw [if_neg e] at hx;exact hb x hx
structure Found (m:Model) (S:List Swap) (q0:Question) (i:Nat) (b:List Way):Prop where
 ok:WOK m b
 path:∀ x∈b,goes m q0 x.swaps x.question∧∀ s∈x.swaps,s∈S
 closed:∀ (j:Nat) (w:Way),j<i→b[j]? = some w→∀ s∈S,(qmv m s w.question).2=true→zcA b (qmv m s w.question).1=true
theorem zmb (hS:SmallM m) {S:List Swap} {q0:Question}:∀ (f i:Nat) (b:List Way),Found m S q0 i b→i≤b.length→63000<f+i→Found m S q0 (bfs m S f i b).length (bfs m S f i b)∧∃ e,bfs m S f i b=b++e
 | 0,i,b,h,hi,hf=>by have:=h.ok.len hS;omega
 | f+1,i,b,h,hi,hf=>by
  rw [bfs]
  by_cases e:i<b.length
  ·rw [yo e]
   have hb:b[i]? = some b[i]:=yo e
   obtain ⟨hq,hw⟩:=ziV h.ok hb
   obtain ⟨e1,x,e2⟩:=zlx hq (S:=S) h.ok hw
   obtain ⟨p1,p2⟩:=h.path _ (yj e)
   obtain ⟨r1,y,r2⟩:=zmb hS f (i+1) (expB m b[i].question b[i].swaps S b) ⟨e1,znu p1 p2 (λ_ h=>h) h.path,λj w hj hw2 s hs h2=>by
    by_cases ej:j=i
    ·subst ej
     rw [e2,zqF hb] at hw2
     cases hw2
     exact zk4 hs h2
    ·have hj':j<b.length:=by omega
     rw [e2,yg hj'] at hw2
     rw [e2]
     exact zk8 (h.closed j w (by omega) hw2 s hs h2)⟩ (by rw [e2,yL];omega) (by omega)
   refine ⟨r1,x++y,?_⟩
   show bfs m S f (i+1) (expB m b[i].question b[i].swaps S b)=_
   rw [r2,e2,yT]
  ·rw [List.getElem?_eq_none (by omega)]
   have:i=b.length:=by omega
   subst this
   exact ⟨h,[],by simp⟩
variable (hS:SmallM m) (hV:ValidM m) (hR:Rng m)
include hS
theorem zbX {q:Question} (hq:zaK m q=true):Found m (swAll m) q (waysP m q).length (waysP m q)∧q∈(waysP m q).map (·.question):=by
 obtain ⟨h1,e,h2⟩:=zmb hS (S:=swAll m) (q0:=q) 63001 0 [⟨q,[]⟩] ⟨WOK.one hq,λx hx=>by rw [yB.1 hx];exact ⟨rfl,by simp⟩,λj w hj=>by omega⟩ (by simp) (by omega)
 refine ⟨h1,?_⟩
 show q∈(bfs m (swAll m) 63001 0 [⟨q,[]⟩]).map (·.question)
 rw [h2];simp
def inOrb (m:Model) (q p:Question):Prop:=p∈(waysP m q).map (·.question)
theorem zmz {q p:Question} (hq:zaK m q=true) (h:inOrb m q p):zaK m p=true:=by
 obtain ⟨w,hw,rfl⟩:=yO.1 h
 exact (zbX hS hq).1.ok.val w hw
theorem zqb {q p:Question} (hq:zaK m q=true) (h:inOrb m q p) {s:Swap} (hs:s∈swAll m) (h2:(qmv m s p).2=true):inOrb m q (qmv m s p).1:=by
 obtain ⟨w,hw,rfl⟩:=yO.1 h
 obtain ⟨j,hj,rfl⟩:=List.getElem_of_mem hw
 exact zhA.1 ((zbX hS hq).1.closed j _ hj (yo hj) s hs h2)
theorem znO {q:Question} (hq:zaK m q=true):∀ {l:List Swap} {p r:Question},inOrb m q p→(∀ s∈l,s∈swAll m)→goes m p l r→inOrb m q r
 | [],p,r,h,_,hg=>by simp only [goes] at hg;exact hg▸h
 | s::l,p,r,h,hl,hg=>znO hq (zqb hS hq h (hl s (by simp)) hg.1) (λt ht=>hl t (by simp [ht])) hg.2
include hV hR
theorem zmn:∀ {l:List Swap} {q p:Question},zaK m q=true→(∀ s∈l,s∈swAll m)→goes m q l p→∃ k,(∀ s∈k,s∈swAll m)∧goes m p k q
 | [],q,p,_,_,hg=>⟨[],by simp,hg.symm⟩
 | s::l,q,p,hq,hl,hg=>by
  obtain ⟨t1,t2⟩:=zrd (zkp hS hV (hl s (by simp))).1 hR hq
  obtain ⟨k,k1,k2⟩:=zmn (zmE hq t1) (λt ht=>hl t (by simp [ht])) hg.2
  refine ⟨k++[s],λt ht=>?_,?_⟩
  ·rcases yE.1 ht with ht | ht
   ·exact k1 t ht
   ·rw [yB.1 ht];exact hl s (by simp)
  ·have:=zjN (m:=m) (s:=s) (p:=(qmv m s q).1) (by rw [t2]) k2
   rw [t2] at this;exact this
theorem zra {q p:Question} (hq:zaK m q=true) (h:inOrb m q p):inOrb m p q:=by
 have hp:=zmz hS hq h
 obtain ⟨w,hw,rfl⟩:=yO.1 h
 obtain ⟨g1,g2⟩:=(zbX hS hq).1.path w hw
 obtain ⟨k,k1,k2⟩:=zmn hS hV hR hq g2 g1
 exact znO hS hp (zbX hS hp).2 k1 k2
end
def encQ (q:Question):List Int:=[q.e,q.f,hI q,q.target.index]
theorem zp1 (a b:Question):compP a b=lexP (encQ a) (encQ b):=by
 simp only [compP,encQ,lexP,cI]
 repeat' split
 all_goals first | rfl | omega | simp_all
theorem totQ:TotC compP:=by
 have:=zlG (enc:=encQ) λa b h=>by
  simp only [encQ,List.cons.injEq] at h
  exact zgv h.1 h.2.1 (zr7 h.2.2.1) h.2.2.2.1
 rw [show compP=λa b=>lexP (encQ a) (encQ b) from by funext a b;exact zp1 a b]
 exact this
def ordQ (l:List Question):List Question:=(sortO (λa b=>some (compP a b)) l).getD []
theorem zjT {l:List Question} (hn:l.Nodup) (h:l.Pairwise λx y=>compP x y≤0):l.Pairwise λx y=>lessQ x y=true:=by
 refine List.Pairwise.imp₂ (λa b h1 h2=>?_) h hn
 rw [← zoO,ye]
 have:compP a b≠0:=λe=>h2 (totQ.zero a b e)
 omega
theorem zpb {l k:List Question} (hp:l.Perm k) (h1:l.Pairwise λx y=>lessQ x y=true) (h2:k.Pairwise λx y=>lessQ x y=true):l=k:=
 zfs (R:=λx y=>lessQ x y=true) (λa b x y=>by have:=zik x y;rw [zjo] at this;cases this) hp h1 h2
theorem zka {l:List Question} (hn:l.Nodup) (hl:l.length≤63000):(ordQ l).Perm l∧(ordQ l).Pairwise λx y=>lessQ x y=true:=by
 obtain ⟨r,r1,r2,r3⟩:=zjt (f:=λa b=>some (compP a b)) totQ (λx _ y _=>rfl) (show l.length<4611686018427387904 by omega)
 unfold ordQ
 rw [r1,yh]
 exact ⟨r2,zjT (r2.nodup_iff.2 hn) r3⟩
theorem zlC {n:Nat} {b:List Way} (hnd:(b.map (·.question)).Nodup) (hl:b.length≤63000) (hn:1000000≤n):zfk n (mapW b)=some (ordQ (b.map (·.question))):=by
 have hk:=zmt hnd
 have hlen:(mapW b).es.length=b.length:=by
  have:=congrArg List.length hk;simpa using this
 unfold zfk
 rw [if_pos (by simp only [ye];omega),hk]
 refine zlb λp hp=>?_
 have hpl:=hp.length_eq
 rw [yH] at hpl
 obtain ⟨r,r1,r2,r3⟩:=zjt (f:=λq0 q1=>zaZ n q0 q1) (l:=p) totQ (λx _ y _=>zk1 (by omega)) (by omega)
 rw [r1]
 congr 1
 obtain ⟨o1,o2⟩:=zka hnd (by simpa using hl)
 exact zpb ((r2.trans hp).trans o1.symm) (zjT ((r2.trans hp).nodup_iff.2 hnd) r3) o2
def minQ (c:Question) (l:List Question):Question:=l.foldl (λc x=>if compP x c<0 then x else c) c
theorem zmv:∀ {l:List Question} {c:Question},minQ c l∈c::l∧∀ x∈c::l,¬ LexQ x (minQ c l)
 | [],c=>⟨by simp [minQ],λx hx=>by
  rw [yB] at hx
  subst hx
  simp only [minQ,List.foldl_nil]
  unfold LexQ;omega⟩
 | y::l,c=>by
  obtain ⟨i1,i2⟩:=zmv (l:=l) (c:=if compP y c<0 then y else c)
  have e:minQ c (y::l)=minQ (if compP y c<0 then y else c) l:=rfl
  rw [e]
  generalize hr:minQ (if compP y c<0 then y else c) l=r at i1 i2
  by_cases hc:compP y c<0
  ·rw [if_pos hc] at i1 i2
   rw [zjH] at hc
   have iy:=i2 y (by simp)
   refine ⟨by rcases yD.1 i1 with h | h <;> simp [h],λx hx=>?_⟩
   rcases yD.1 hx with rfl | hx
   ·unfold LexQ at *;omega
   ·exact i2 x hx
  ·rw [if_neg hc] at i1 i2
   rw [zjH] at hc
   have ic:=i2 c (by simp)
   refine ⟨by rcases yD.1 i1 with h | h <;> simp [h],λx hx=>?_⟩
   rcases yD.1 hx with rfl | hx
   ·exact ic
   ·rcases yD.1 hx with rfl | hx
    ·unfold LexQ at *;omega
    ·exact i2 x (by simp [hx])
theorem zn9 {n:Nat} {c:Question} {l:List Question} (hl:l.length≤100000) (hn:1000000≤n):zq n (c::l) (λq0 q1=>zaZ n q0 q1)=some (minQ c l):=by
 unfold zq
 have i0:idx (c::l) 0=some c:=za (i:=0) (by simp)
 rw [if_neg (by simp;omega),i0]
 have:=zbi (body:=zq.l1 n (c::l) (λq0 q1=>zaZ n q0 q1)) (len:=(c::l).length) (st:=λ(x:Question) i=>(x.e,x.f,x.target.hold,x.target.index,(i:Int))) (g:=λi x=>some (minQ x ((c::l).drop i))) (λ_ _=>True) (λrec i x hi _ hr=>?_) (λrec x _=>?_) n 1 c (by simp) (by simp;omega) trivial
 ·simpa using this
 ·have hx:(⟨x.e,x.f,⟨x.target.hold,x.target.index⟩⟩:Question)=x:=rfl
  simp only [zq.l1,zn hi,if_true,jn,za hi,ya,hx,zk1 (show 10≤n by omega),zd (show i<4611686018427387904 by simp at hi;omega)]
  rw [zh hi]
  show _=some (minQ (if compP (c::l)[i] x<0 then (c::l)[i] else x) ((c::l).drop (i+1)))
  by_cases e:compP (c::l)[i] x<0
  ·rw [if_pos (by simpa using e),if_pos e];exact hr _ trivial
  ·rw [if_neg (by simpa using e),if_neg e];exact hr _ trivial
 ·simp only [zq.l1,zaq,yf,if_false,List.drop_length]
  rfl
theorem zoi {n:Nat} {b:List Way} (hnd:(b.map (·.question)).Nodup) (hl:b.length≤63000) (h0:0<b.length) (hn:1000000≤n):∃ h:0<(ordQ (b.map (·.question))).length,zii n (mapW b)=some (ordQ (b.map (·.question)))[0]:=by
 have hk:=zmt hnd
 have hlen:(mapW b).es.length=b.length:=by
  have:=congrArg List.length hk;simpa using this
 obtain ⟨o1,o2⟩:=zka hnd (by simpa using hl)
 have hol:=o1.length_eq
 rw [yH] at hol
 refine ⟨by omega,?_⟩
 unfold zii
 rw [if_pos (by simp only [ye];omega),hk]
 refine zlb λp hp=>?_
 have hpl:=hp.length_eq
 rw [yH] at hpl
 cases p with
 | nil=>simp at hpl;omega
 | cons c l=>
  rw [zn9 (by simp at hpl;omega) hn]
  congr 1
  obtain ⟨m1,m2⟩:=zmv (l:=l) (c:=c)
  have hmem:=(hp.trans o1.symm).mem_iff.1 m1
  obtain ⟨x,hx,hxe⟩:=List.getElem_of_mem hmem
  by_cases e:x=0
  ·subst e;exact hxe.symm
  ·have h3:=(List.pairwise_iff_getElem.1 o2) 0 x (by omega) hx (by omega)
   rw [hxe,zjS] at h3
   exact absurd h3 (m2 _ ((hp.trans o1.symm).mem_iff.2 (yj _)))
def orbP (m:Model) (q:Question):List Question:=ordQ ((waysP m q).map (·.question))
theorem zrf {n:Nat} {b:List Way} (hnd:(b.map (·.question)).Nodup) (hl:b.length≤63000) (hn:1000000≤n):loopF (zat.l1 n b) n ([]:List Question)=some (ordQ (b.map (·.question))):=by
 obtain ⟨O,hO⟩:∃ O,O=ordQ (b.map (·.question)):=⟨_,rfl⟩
 obtain ⟨o1,o2⟩:=zka hnd (by simpa using hl)
 rw [← hO] at o1 o2 ⊢
 have hol:=o1.length_eq
 rw [yH] at hol
 have hlt:=List.pairwise_iff_getElem.1 o2
 have:=zT (body:=zat.l1 n b) (len:=O.length) (st:=λk=>O.take k) (g:=λ_=>some O) (λrec k hk hr=>?_) (λrec=>?_) n 0 (yp _) (by omega)
 ·simpa using this
 ·simp only [zat.l1]
  have hkl:(O.take k).length=k:=by rw [yP];omega
  rw [if_pos (by simp only [hkl,ye];omega),← hr]
  obtain ⟨elig,helig⟩:∃ elig:Question→Bool,elig=λq=>decide (k=0)||lessQ (O.getD (k - 1) noQ) q:=⟨_,rfl⟩
  have hlast:∀ h:0<k,idx (O.take k) (sub64 ((O.take k).length:Int) 1)=some (O.getD (k - 1) noQ):=λh=>by
   rw [hkl,zfV (by omega) (by omega),show ((k:Nat):Int) - 1=((k - 1:Nat):Int) by omega,za (by omega)]
   simp [uk,show k - 1<O.length by omega]
  have helx:∀ x (hx:x<O.length),elig O[x]=true↔k≤x:=λx hx=>by
   rw [helig]
   simp only [yz,ye]
   constructor
   ·rintro (h | h)
    ·omega
    ·rcases uy x k with hxk | hxk
     ·exfalso
      have hg:O.getD (k - 1) noQ=O[k - 1]:=by simp [uk,show k - 1<O.length by omega]
      rw [hg] at h
      by_cases e:x=k - 1
      ·subst e;rw [zjo] at h;cases h
      ·have h2:=hlt x (k - 1) hx (by omega) (by omega)
       have:=zik h h2
       rw [zjo] at this;cases this
     ·exact hxk
   ·intro h
    by_cases e:k=0
    ·exact .inl e
    ·right
     have hg:O.getD (k - 1) noQ=O[k - 1]:=by simp [uk,show k - 1<O.length by omega]
     rw [hg]
     exact hlt (k - 1) x (by omega) hx (by omega)
  have inner:=zbi (body:=zat.l2 n b (O.take k) rec) (len:=b.length) (st:=λ(c:Question×Bool) j=>(c.1.e,c.1.f,c.1.target.hold,c.1.target.index,c.2,(j:Int))) (g:=λj c=>rec (O.take (k+1))) (λj c=>(c.2=false→∀ w∈b.take j,elig w.question=false)∧(c.2=true→(elig c.1=true∧c.1∈b.map (·.question))∧∀ w∈b.take j,elig w.question=true→lessQ w.question c.1=false)) (λrec2 j c hj hI hr2=>?_) (λrec2 c hI=>?_) n 0 (noQ,false) (yp _) (by omega) ⟨λ_ w hw=>by simp at hw,λh=>by simp at h⟩
  ·exact inner
  ·have hc1:(⟨c.1.e,c.1.f,⟨c.1.target.hold,c.1.target.index⟩⟩:Question)=c.1:=rfl
   obtain ⟨w,hw⟩:∃ w,w=b[j]:=⟨_,rfl⟩
   have hel:(((((O.take k).length:Int)==0)||lessQ ((idx (O.take k) (sub64 ((O.take k).length:Int) 1)).getD default) w.question)=elig w.question):=by
    rw [helig,hkl]
    by_cases e:k=0
    ·simp [e]
    ·have:=hlast (by omega)
     rw [hkl] at this
     rw [this,yh,ug.2 (by omega),decide_eq_false e]
   have hsome:((((O.take k).length:Int)==0)||(idx (O.take k) (sub64 ((O.take k).length:Int) 1)).isSome)=true:=by
    by_cases e:k=0
    ·simp [e]
    ·rw [hlast (by omega)];simp
   simp only [zat.l2,zn hj,if_true,jn,za hj,ya,← hw,hsome,hel,hc1,zqe,yk,yC,grd,yh,zd (i:=j) (by omega)]
   have htk:b.take (j+1)=b.take j++[w]:=by rw [yv hj,hw]
   by_cases e:(elig w.question&&((!c.2)||lessQ w.question c.1))=true
   ·rw [if_pos e]
    simp only [yc,yz,yG] at e
    refine hr2 (w.question,true) ⟨λh=>by simp at h,λ_=>⟨⟨e.1,?_⟩,λv hv hve=>?_⟩⟩
    ·rw [hw];exact yO.2 ⟨_,yj hj,rfl⟩
    ·rw [htk] at hv
     rcases yE.1 hv with hv | hv
     ·rcases e.2 with h2 | h2
      ·rw [hI.1 h2 v hv] at hve;cases hve
      ·cases hc2:c.2 with
       | false=>rw [hI.1 hc2 v hv] at hve;cases hve
       | true=>
        have h3:=(hI.2 hc2).2 v hv hve
        cases hx:lessQ v.question w.question with
        | false=>rfl
        | true=>rw [zik hx h2] at h3;cases h3
     ·rw [yB.1 hv,zjo]
   ·rw [if_neg e]
    refine hr2 c ⟨λh v hv=>?_,λh=>⟨(hI.2 h).1,λv hv hve=>?_⟩⟩
    ·rw [htk] at hv
     rcases yE.1 hv with hv | hv
     ·exact hI.1 h v hv
     ·rw [yB.1 hv]
      cases hx:elig w.question with
      | false=>rfl
      | true=>rw [hx,h] at e;simp at e
    ·rw [htk] at hv
     rcases yE.1 hv with hv | hv
     ·exact (hI.2 h).2 v hv hve
     ·rw [yB.1 hv] at hve ⊢
      cases hx:lessQ w.question c.1 with
      | false=>rfl
      | true=>rw [hve,hx] at e;simp at e
  ·rw [List.take_length] at hI
   have hkm:O[k]∈b.map (·.question):=o1.mem_iff.1 (yj hk)
   obtain ⟨w,hw,hwe⟩:=yO.1 hkm
   have hwel:elig w.question=true:=by rw [hwe];exact (helx k hk).2 (yn _)
   cases hc2:c.2 with
   | false=>have:=hI.1 hc2 w hw;rw [hwel] at this;cases this
   | true=>
    obtain ⟨⟨c1,c2⟩,c3⟩:=hI.2 hc2
    have hx:=o1.mem_iff.2 c2
    obtain ⟨x,hxl,hxe⟩:=List.getElem_of_mem hx
    have hkx:k≤x:=(helx x hxl).1 (by rw [hxe];exact c1)
    have hck:c.1=O[k]:=by
     by_cases e:x=k
     ·subst e;exact hxe.symm
     ·have h3:=hlt k x hk hxl (by omega)
      have h4:=c3 w hw hwel
      rw [hwe,← hxe,h3] at h4;cases h4
    have hc1:(⟨c.1.e,c.1.f,⟨c.1.target.hold,c.1.target.index⟩⟩:Question)=c.1:=rfl
    simp only [zat.l2,zaq,yf,if_false,hc1]
    rw [zam (by simp;omega),ya,hck,← yv hk]
 ·simp only [zat.l1,List.take_length]
  rw [if_neg (by simp;omega)]
theorem ziE {n:Nat} {a b:List Swap} (hl:a.length<1000000) (hn:1000000≤n):zb n a b=some (decide (a=b)):=by
 unfold zb
 by_cases h:a.length=b.length
 ·rw [if_neg (by simp [h])]
  have:=zT (body:=zb.l1 n a b) (len:=a.length) (st:=λi=>(i:Int)) (g:=λi=>some (decide (a.drop i=b.drop i))) (λrec i hi hr=>?_) (λrec=>?_) n 0 (yp _) (by omega)
  ·simpa using this
  ·have hib:i<b.length:=by omega
   simp only [zb.l1,zn hi,if_true,za hi,za hib,ya,zd (i:=i) (by omega),hr]
   rw [zh hi,zh hib]
   by_cases e:a[i]=b[i]
   ·simp only [e,decide_true,yW,yf,if_false,List.cons.injEq,true_and]
   ·simp only [e,decide_false,ui,if_true,List.cons.injEq,false_and]
  ·simp [zb.l1,h]
 ·rw [if_pos (by simp;omega)]
  have:¬ a=b:=λe=>h (by rw [e])
  simp [this]
theorem zos {n:Nat} {a b:List Question} (hl:a.length<1000000) (hn:1000000≤n):zl n a b=some (decide (a=b)):=by
 unfold zl
 by_cases h:a.length=b.length
 ·rw [if_neg (by simp [h])]
  have:=zT (body:=zl.l1 n a b) (len:=a.length) (st:=λi=>(i:Int)) (g:=λi=>some (decide (a.drop i=b.drop i))) (λrec i hi hr=>?_) (λrec=>?_) n 0 (yp _) (by omega)
  ·simpa using this
  ·have hib:i<b.length:=by omega
   simp only [zl.l1,zn hi,if_true,za hi,za hib,ya,zd (i:=i) (by omega),hr]
   rw [zh hi,zh hib]
   by_cases e:a[i]=b[i]
   ·simp only [e,decide_true,yW,yf,if_false,List.cons.injEq,true_and]
   ·simp only [e,decide_false,ui,if_true,List.cons.injEq,false_and]
  ·simp [zl.l1,h]
 ·rw [if_pos (by simp;omega)]
  have:¬ a=b:=λe=>h (by rw [e])
  simp [this]
theorem zp7 {l:List Question} (h:0<l.length):l.headD noQ=l[0]:=by
 cases l with
 | nil=>simp at h
 | cons a l=>rfl
def repP (m:Model) (q:Question):Question:=(orbP m q).headD noQ
def wayP (m:Model) (q:Question):List Swap:=(((waysP m (repP m q)).find? λw=>decide (w.question=q)).map (·.swaps)).getD []
section
variable {m:Model} {n:Nat} (hF:Fuel n) (hn:4294967296≤n) (hS:SmallM m) (hR:Rng m)
include hF hn hS hR
theorem zpN (q:Question):zag n m q=some (if (zbb m&&zaK m q)=true then orbP m q else []):=by
 have hval:zJ n (zS m) q=some (zaK m q):=quest_body
 unfold zag
 rw [zdf hF hS,ya]
 by_cases hv:zbb m=true
 ·have hV:=zcl.1 hv
  rw [if_pos hv,hv]
  simp only [yW,ue,yk,grd,if_true,yh,hval,ya,yA]
  by_cases hq:zaK m q=true
  ·obtain ⟨hf,-⟩:=zbX hS hq
   rw [if_neg (by simp [hq]),if_pos hq,zlP hS hV hR (by omega) hq,ya,zlC hf.ok.nd (hf.ok.len hS) (by omega),ya]
   rfl
  ·rw [if_pos (by simpa using hq),if_neg hq]
 ·rw [if_neg hv]
  simp only [yF] at hv
  rw [hv];simp [grd]
theorem zmF (q:Question):zat n m q=some (if (zbb m&&zaK m q)=true then orbP m q else []):=by
 unfold zat
 rw [zkP hn hS,ya]
 by_cases hv:(zbb m&&zaK m q)=true
 ·have hv2:=hv
  simp only [yc] at hv2
  have hV:=zcl.1 hv2.1
  obtain ⟨hf,-⟩:=zbX hS hv2.2
  rw [if_neg (by simp [hv]),if_pos hv,zkc hn hS,if_pos hv2.1,ya,znP hS hV hR (by omega) hv2.2,ya,zrf hf.ok.nd (hf.ok.len hS) (by omega)]
  rfl
 ·rw [if_pos (by rw [yF] at hv;rw [hv];rfl),if_neg hv]
theorem zj9 (hV:ValidM m) {q:Question} (hq:zaK m q=true):∃ h:0<(orbP m q).length,repP m q=(orbP m q)[0]∧inOrb m q (repP m q)∧zii n (mapW (waysP m q))=some (repP m q)∧zaK m (repP m q)=true∧∃ w∈waysP m (repP m q),w.question=q∧((waysP m (repP m q)).find? λv=>decide (v.question=q))=some w:=by
 obtain ⟨hf,hm⟩:=zbX hS hq
 have hpos:0<(waysP m q).length:=by
  obtain ⟨w,hw,-⟩:=yO.1 hm
  exact List.length_pos_of_mem hw
 obtain ⟨o1,o2⟩:=zka hf.ok.nd (by simpa using hf.ok.len hS)
 obtain ⟨h0,hk⟩:=zoi (n:=n) hf.ok.nd (hf.ok.len hS) hpos (by omega)
 have hrep:repP m q=(orbP m q)[0]'h0:=zp7 (l:=orbP m q) h0
 have hin:inOrb m q (repP m q):=by
  rw [hrep];exact o1.mem_iff.1 (yj h0)
 have hback:=zra hS hV hR hq hin
 obtain ⟨w,hw,hwe⟩:=yO.1 hback
 have hqr:=zmz hS hq hin
 refine ⟨h0,hrep,hin,by rw [hk,hrep];rfl,hqr,w,hw,hwe,?_⟩
 have:=zoZ (zbX hS hqr).1.ok.nd hw
 rw [hwe] at this;exact this
theorem zro (q:Question):zba n m q=some (if (zbb m&&zaK m q)=true then (repP m q,wayP m q) else (noQ,[])):=by
 have hval:zJ n (zS m) q=some (zaK m q):=quest_body
 unfold zba
 rw [zdf hF hS,ya]
 by_cases hv:zbb m=true
 ·have hV:=zcl.1 hv
  rw [if_pos hv,hv]
  simp only [yW,ue,yk,grd,if_true,yh,hval,ya,yA]
  by_cases hq:zaK m q=true
  ·obtain ⟨h0,-,-,hk,hqr,-⟩:=zj9 hF hn hS hR hV hq
   rw [if_neg (by simp [hq]),if_pos hq,zlP hS hV hR (by omega) hq,ya,hk,ya,zlP hS hV hR (by omega) hqr,ya,zlL (zbX hS hqr).1.ok.nd]
   rfl
  ·rw [if_pos (by simpa using hq),if_neg hq];rfl
 ·rw [if_neg hv]
  simp only [yF] at hv
  rw [hv];simp [grd,noQ]
theorem zre (q:Question):zar n m q=some (if (zbb m&&zaK m q)=true then (repP m q,wayP m q) else (noQ,[])):=by
 unfold zar
 rw [zmF hF hn hS hR,ya]
 by_cases hv:(zbb m&&zaK m q)=true
 ·have hv2:=hv
  simp only [yc] at hv2
  have hV:=zcl.1 hv2.1
  obtain ⟨h0,hrep,-,-,hqr,w,hw,hwe,hfind⟩:=zj9 hF hn hS hR hV hv2.2
  have hf:=(zbX hS hqr).1
  have hl:=hf.ok.len hS
  have i0:idx (orbP m q) 0=some (repP m q):=by
   rw [hrep];exact za (i:=0) h0
  rw [if_pos hv,if_neg (by rw [beq_iff_eq];omega),zkc hn hS,if_pos hv2.1,ya,i0,ya,znP hS hV hR (by omega) hqr,ya,if_pos hv]
  have hway:wayP m q=w.swaps:=by unfold wayP;rw [hfind];rfl
  have:=zT (body:=zar.l1 n q (orbP m q) (waysP m (repP m q))) (len:=(waysP m (repP m q)).length) (st:=λi=>(i:Int)) (g:=λi=>some (match ((waysP m (repP m q)).drop i).find? (λv=>decide (v.question=q)) with
   | some v=>(repP m q,v.swaps)
   | none=>(noQ,[]))) (λrec i hi hr=>?_) (λrec=>?_) n 0 (yp _) (by omega)
  ·rw [show ((0:Nat):Int)=0 from rfl] at this
   rw [this,List.drop_zero,hfind,hway]
  ·simp only [zar.l1,zn hi,if_true,za hi,ya,i0,zd (i:=i) (by omega),hr]
   rw [zh hi,List.find?_cons]
   by_cases e:(waysP m (repP m q))[i].question=q
   ·rw [if_pos (by simpa using e)];simp [e]
   ·rw [if_neg (by simpa using e)];simp [e]
  ·simp only [zar.l1,zaq,yf,if_false,List.drop_length,List.find?_nil]
   rfl
 ·rw [if_neg hv,if_pos (by simp),if_neg hv];rfl
theorem zrp (q:Question):(if (zbb m&&zaK m q)=true then (repP m q,wayP m q) else (noQ,[])).2.length<1000000:=by
 by_cases hv:(zbb m&&zaK m q)=true
 ·have hv2:=hv
  simp only [yc] at hv2
  have hV:=zcl.1 hv2.1
  obtain ⟨h0,hrep,-,-,hqr,w,hw,hwe,hfind⟩:=zj9 hF hn hS hR hV hv2.2
  have hf:=(zbX hS hqr).1
  have hl:=hf.ok.len hS
  have:=hf.ok.way w hw
  rw [if_pos hv]
  show (wayP m q).length<1000000
  unfold wayP
  rw [hfind]
  simp only [yK,yh]
  omega
 ·rw [if_neg hv];simp
theorem zq9 (q:Question):(if (zbb m&&zaK m q)=true then orbP m q else []).length<1000000:=by
 by_cases hv:(zbb m&&zaK m q)=true
 ·have hv2:=hv
  simp only [yc] at hv2
  obtain ⟨hf,-⟩:=zbX hS hv2.2
  have hl:=hf.ok.len hS
  obtain ⟨o1,-⟩:=zka hf.ok.nd (by simpa using hl)
  have:=o1.length_eq
  rw [if_pos hv]
  simp at this
  unfold orbP
  omega
 ·rw [if_neg hv];simp
theorem zsf:(if zbb m=true then swAll m else []).length<1000000:=by
 by_cases hv:zbb m=true
 ·have:=zh0 hS (zcl.1 hv).lay
  rw [if_pos hv];omega
 ·rw [if_neg hv];simp
end
theorem zn6 {m:Model} {s:Swap} {q:Question} (hR:Rng m):zc3 18446744073709551616 m s q=some true:=by
 unfold zc3
 simp only [zob,ya,yW,yf,if_false,zmJ big1]
 cases hf:fewP m with
 | false=>simp
 | true=>
  have hS:=zod hf
  obtain ⟨h1,h2⟩:=zn8 (s:=s) zhy big2 hS hR
  have l1:=zrp zhy big2 hS hR q
  have l2:=zq9 zhy big2 hS hR q
  have l3:=zsf zhy big2 hS hR
  rw [if_neg (by simp),zro zhy big2 hS hR,ya,zre zhy big2 hS hR,ya,h1,ya,h2,ya]
  simp only [zpW zhy big2 hS hR,zkc big2 hS,zpN zhy big2 hS hR,zmF zhy big2 hS hR,ziE l1 big1,ziE l3 big1,zos l2 big1,yk,yh,yC,grd,if_true,uP,decide_true,uT]
theorem closed9:joinedFacts Tryz.pinned.checked.prog 4 Tryz.f4 (OpenSpec.ofChange Rows.symmetryGroupsSpec).bare Rows.symmetryGroupsRow=true:=by
 unfold joinedFacts
 simp only [yc]
 repeat' apply And.intro
 all_goals as_aux_lemma=>kernel_rfl
theorem zoc {m:Model} (h:zqv.good m):Rng m:=by
 intro a ha u hu
 obtain ⟨x,rfl,-,-,-,-,-,h6,-⟩:=h
 obtain ⟨y,rfl,-,-,h3,-⟩:=h6 a ha
 obtain ⟨z,hz,-,-,h4,-⟩:=h3
 have hu2:u∈z.2.2.1:=by
  have e:y.2.2.1=(⟨z.1,z.2.1,z.2.2.1⟩:Effect):=hz.symm
  have hu3:u∈y.2.2.1.updates:=hu
  rw [e] at hu3;exact hu3
 obtain ⟨v,rfl,-,h5,-⟩:=h4 u hu2
 exact h5
section
open Go.ChangeShapes Go.WideShapes Go.ChangeAt Go.RowKit
theorem own:ownKnob Tryz.prog.godebug=none:=by kernel_rfl
theorem zqY:laidOutB Tryz.prog=true:=by kernel_rfl
set_option maxRecDepth 100000 in
theorem contract9 (H:Type) (enc:TypeId×Value→H) (W:World) (base:Nat) (args:Array Value) (ds gs:List (DataW H)) (before:List MemPlace)
  (hval:∀ (j:Nat) t v,Tryz.f4.params[j]? = some t→args[j]? = some v→Value.okWide Tryz.prog W .any base t v)
  (hW:DataW.Whole enc Tryz.prog Tryz.f4.params.toList Rows.symmetryGroupsSpec.vars false W args.toList ds gs before) (hL:laidMetH Tryz.prog Rows.symmetryGroupsRow.laid W) (hS:W.ShapedOpen Tryz.prog) :
  Calls Tryz.prog 4 args W λe W'=>∃ v,e = .returned v∧Rows.symmetryGroupsSpec.post enc Tryz.prog Tryz.f4 false true false false W args v W':=by
 have hW':=hW
 obtain ⟨p,q,hA0,hV,rfl,hfz,hnd⟩:=hW
 have hA:DataW.TrodAll enc Tryz.prog W 0 (λ_=>true) true Tryz.f4.params.toList args.toList ds p:=hA0
 rw [Tryz.params4] at hA hval
 obtain ⟨v0,vs0,d0,ds0,p0,q0,hargs,rfl,rfl,h0,r0⟩:=trodAll_cons hA
 obtain ⟨v1,vs1,d1,ds1,p1,q1,rfl,rfl,rfl,h1,r1⟩:=trodAll_cons r0
 obtain ⟨v2,vs2,d2,ds2,p2,q2,rfl,rfl,rfl,h2,r2⟩:=trodAll_cons r1
 obtain ⟨rfl,rfl,rfl⟩:=trodAll_nil r2
 obtain rfl:args = #[v0,v1,v2]:=by cases args;simp_all
 obtain ⟨rfl,rfl⟩:=trodVars_none hV
 obtain ⟨a0,k0,g0⟩:=zqv.of_argG (hval 0 _ v0 rfl rfl) h0
 obtain ⟨a1,k1⟩:=dSwap.of_arg (hval 1 _ v1 rfl rfl) h1
 obtain ⟨a2,k2⟩:=zr1.of_arg (hval 2 _ v2 rfl rfl) h2
 have hrun:=(zfH _ a0 a1 a2 true (zn6 (zoc g0))).run Noneof W #[v0,v1,v2] (λ_ h=>h.elim) (zqU hL hS) (by
  simp only [D.reps]
  exact ⟨v0,_,rfl,k0,v1,_,rfl,k1,v2,_,rfl,k2,rfl⟩)
 refine hrun.mono λe W' ⟨u,he,hf,hu⟩=>?_
 simp only [D.rep] at hu
 subst hu
 subst he
 refine ⟨_,rfl,zps hW' rfl rfl rfl zqY (λt ht=>?_) hf (λ_ _ _=>trodAll_cons_mk (shut_bool Tryz.underlying4 _) trodAll_mk0)⟩
 rw [Tryz.params4] at ht
 have hall:([30,41,34].all λt=>Tryz.prog.readableRec t&&decide (t<Tryz.prog.types.size))=true:=by kernel_rfl
 have:=yr.1 hall t (by simpa using ht)
 simpa using this
theorem reads9 (os:Os) {H:Type} (enc:TypeId×Value→H):∃ places,DataW.whole enc Tryz.prog ((World.laidAll Tryz.prog os Rows.symmetryGroupsRow.laid).forCall (λ_ _=>0) ⟨#[],#[.agg #[.slice none 0 0,.slice none 0 0,.slice none 0 0,.slice none 0 0,.slice none 0 0,.slice none 0 0,.slice none 0 0],.agg #[.int .i64 0,.int .i64 0,.int .i64 0],.agg #[.int .i64 0,.int .i64 0,.bool false,.int .i64 0]],[]⟩).memory Tryz.f4.params.toList Rows.symmetryGroupsSpec.vars false
  (#[.agg #[.slice none 0 0,.slice none 0 0,.slice none 0 0,.slice none 0 0,.slice none 0 0,.slice none 0 0,.slice none 0 0],.agg #[.int .i64 0,.int .i64 0,.int .i64 0],.agg #[.int .i64 0,.int .i64 0,.bool false,.int .i64 0]]:Array Value).toList 8 =
  some ([.agg [.nil,.nil,.nil,.nil,.nil,.nil,.nil],.agg [.lit (.int .i64 0),.lit (.int .i64 0),.lit (.int .i64 0)],.agg [.lit (.int .i64 0),.lit (.int .i64 0),.agg [.lit (.bool false),.lit (.int .i64 0)]]],[],places):=
 ⟨[],by kernel_rfl⟩
set_option maxRecDepth 100000 in
theorem lifted9 (os:Os) (started:os.Started) (H:Type) (enc:TypeId×Value→H) (F:Stop.Interp) :
  ReturnsInHanded {} Tryz.checked os 4 .any ((OpenSpec.ofChange Rows.symmetryGroupsSpec).preRow enc Tryz.prog Tryz.f4 Rows.symmetryGroupsRow.domain false Rows.symmetryGroupsRow.laid) (((OpenSpec.ofChange Rows.symmetryGroupsSpec).at F).post enc Tryz.prog Tryz.f4 false true false false):=by
 obtain ⟨places,hx⟩:=reads9 os enc
 refine returnsInHanded_of_row (C:=Tryz.checked) (s:=OpenSpec.ofChange Rows.symmetryGroupsSpec) own started (by kernel_rfl) Tryz.func4
  (witness_row_atRef (enc:=enc) (C:=Tryz.checked) false (World.laidAll Tryz.prog os Rows.symmetryGroupsRow.laid) _ (World.laidAll_os _ _ _) (by kernel_rfl) (by kernel_rfl) (by kernel_rfl)
   (OpenSpec.preRow_of_cond 8 hx (by kernel_rfl) (λk hk=>by cases hk) (by kernel_rfl) (laidMet_laidAll _ (by kernel_rfl) (by kernel_rfl)))) ?_
 intro W base args ds gs before hval hW _ _ _ hL hS _
 exact contract9 H enc W base args ds gs before hval hW hL hS
theorem said9:Rows.SymmetryGroupsSaid:=
 OpenClaim.holds_of_cond 4 Tryz.f4 rfl rfl rfl rfl rfl rfl rfl ⟨rfl,rfl,rfl,rfl,rfl⟩ rfl rfl rfl rfl rfl (by kernel_rfl) Tryz.func4 closed9
  (of_decide_eq_true (by kernel_rfl)) (by unfold Func.isWrapper;first | (rw [if_pos (by decide +kernel)];kernel_rfl) | (rw [if_neg (by decide +kernel)];exact ⟨rfl,rfl⟩))
  (λos started H enc _ F=>by rw [OpenClaim.pre_eq_preRow];exact lifted9 os started H enc F)
theorem plain9 (f:FuncId) (fn:Func) (hf:Tryz.pinned.checked.prog.funcNamed Rows.symmetryGroupsRow.func=some f) (hfn:Tryz.pinned.checked.prog.funcs[f]? = some fn) :
  false=Tryz.pinned.checked.prog.looks []∧∀ (j:Nat) t,fn.params[j]? = some t→Tryz.pinned.checked.prog.wantsStandIn t=false:=by
 obtain rfl:f=4:=Option.some.inj ((show Tryz.prog.funcNamed Rows.symmetryGroupsRow.func=some 4 by kernel_rfl).symm.trans hf) |>.symm
 obtain rfl:fn=Tryz.f4:=(Option.some.inj (Tryz.func4.symm.trans hfn)).symm
 refine ⟨by kernel_rfl,λj t ht=>?_⟩
 rw [Tryz.params4] at ht
 have hall:([30,41,34].all λu=>!Tryz.prog.wantsStandIn u)=true:=by kernel_rfl
 have:=yr.1 hall t (by simpa using Array.mem_of_getElem? ht)
 exact (show Tryz.prog.wantsStandIn t=false by simpa using this)
theorem symmetryGroups_holds:Rows.SymmetryGroupsCardSaid:=
 Claim7.holds_tied_plain_at .later [] _ _ _ _ said9 (λ_ h=>by cases h) (by kernel_rfl) (λ_ h=>by cases h) symmetryGroups_row_tie rfl ⟨rfl,rfl⟩ (by kernel_rfl) rfl plain9 (by kernel_rfl)
end
end Go.Proofs.YtehefbidnkfciaaGreatDoor
