/- Part of the proof of one law of the seat. -/
import Derived.Test.YtipkniadbkndfaaGreatDoorDc02
import Derived.Shelf.SlSortCmp.Whole1
import Derived.Shelf.SlSortCmp.NoneTotal
import Derived.Shelf.SlSortCmp.WholeK
import Derived.Shelf.Spec.SlicesGrow
import Derived.Test.YtipkniadbkndfaaGreatDoorProg
import Derived.KernelRfl
import Derived.Deep.Slices
import Derived.WideKeyArgs
import Derived.OpenShut
import Derived.Test.YtipkniadbkndfaaGreatDoorRows
import Derived.Lib.LaidTab
import Derived.Lib.LaidU8
import Derived.Stop.LaidErr
import Derived.MakeChecks
import Derived.Tactics
import Derived.Tactics2
import Derived.Defers
import Derived.Recover
import Derived.Laws.Pointers
import Derived.Deep.RegionHeld
set_option linter.unusedVariables false
set_option linter.unusedSectionVars false
set_option linter.unusedSimpArgs false
set_option maxRecDepth 100000
set_option maxHeartbeats 40000000
namespace Go.Proofs.YtipkniadbkndfaaGreatDoor
open Go Go.RowKit
section
open Go Go.RowKit Go.Sort Go.Shelf
variable [ztS] [Drw]
theorem Fr.grow_eq {w w'} (h : @Fr DT ze w w'):∃ q os,w'=grow (w.drewN q) os:=by
 refine ⟨w'.drawn - w.drawn,w'.heap.extract w.heap.size w'.heap.size,?_⟩;obtain ⟨heap,tape,drawn,os,output⟩:=w;obtain ⟨heap',tape',drawn',os',output'⟩:=w';obtain ⟨h1,h2,h3,h4,h5,h6⟩:=h;simp only at h1 h2 h3 h4 h5 h6;have h6:=h6 trivial;subst h1 h2 h3;have e:heap'=heap++heap'.extract heap.size heap'.size:=by
  apply Array.ext_getElem?;intro i;by_cases hi:i<heap.size
  ·rw [Array.getElem?_append_left hi];exact h5 i hi (λx=>x)
  ·rw [Array.getElem?_append_right (by omega),Array.getElem?_extract];simp only [show heap.size+(i - heap.size)=i by omega];by_cases hj:i<heap'.size
   ·rw [if_pos (by omega)]
   ·rw [if_neg (by omega)];exact Array.getElem?_eq_none (by omega)
 simp only [grow,World.drewN,World.mk.injEq];exact ⟨e,trivial,by omega,trivial,trivial⟩
theorem zq7 {α:Type} [Inhabited α] {enc:α→Value} {w} {g n:Nat} {os:Array Obj} (d:Array α):Fr (λb=>some g=some b) w (sortWorld enc w g 0 n d os):=by
 refine ⟨rfl,rfl,rfl,by simp [sortWorld],λk hk hne=>?_,λ_=>Nat.le_add_right _ _⟩;unfold sortWorld;rw [heap_grow_old _ _ (by simpa using hk)];have:g≠k:=λe=>hne (by rw [e])
 simp [putRow,mapBlock,Sort.ahead,Array.getElem?_modify,this]
theorem zo8 {P A w} {k g blk:Nat} (hA:∀ b,A b→b<w.heap.size) (hG:zdo A w) (hb:A blk) {vals:Fin (k+1)→Value} {encs:Fin (k+1)→D} (hr:∀ i,(encs i).rep A w (vals i)) {cf:Fin (k+1)→Fin (k+1)→Int}
  (hp:∀ i j,@Pure ‹ztS› DT P g [encs i,encs j] (.int (cf i j))):CmpLays1 P g #[] vals cf blk 0 (k+1) w:=by
 intro m os dk _ x y;have f0:Fr (λb=>some blk=some b) w (sortWorld vals w blk 0 m dk os):=zq7 dk;have hW:∀ b,some blk=some b→A b:=λb e=>by cases e;exact hb
 have h:=@Pure.run ‹ztS› DT _ _ _ _ (hp x y) A (sortWorld vals w blk 0 m dk os) #[vals x,vals y] (λb hb=>yD (hA b hb) f0.size) (hG.fr f0 hW (λ_ _ h=>h)) (by
  simp only [D.reps];exact ⟨_,_,rfl,D.zuU f0 hW (λ_ _ h=>h) _ _ (hr x),_,_,rfl,D.zuU f0 hW (λ_ _ h=>h) _ _ (hr y),rfl⟩)
 simp only [Array.append_empty];refine h.mono ?_;rintro e w' ⟨u,rfl,hf,hu⟩;simp only [D.rep] at hu;obtain ⟨q,os',he⟩:=hf.grow_eq;exact ⟨by rw [hu],q,os',he⟩
theorem D.zwr {A w}:∀ {xs:List D} {cs:List Value},(∀ x∈xs,x.shape=none)→(D.flat A w 1 xs cs↔D.reps A w xs cs)
 | [],cs,_=>by simp only [D.flat,D.reps]
 | x::xs,cs,h=>by
  simp only [D.flat,D.reps];constructor
  ·rintro ⟨u,cs',rfl,hk,h1,h2⟩;have hc:=D.zui h1 (h x (by simp));refine ⟨u,cs',by rw [hc];rfl,h1,(D.zwr λy hy=>h y (by simp [hy])).1 h2⟩
  ·rintro ⟨u,cs',rfl,h1,h2⟩;have hc:=D.zui h1 (h x (by simp));exact ⟨u,cs',by rw [hc];rfl,by rw [hc];rfl,h1,(D.zwr λy hy=>h y (by simp [hy])).2 h2⟩
theorem D.zwC {A w}:∀ {ds:List D} {vs:List Value},vs.length=ds.length→(∀ (i:Nat) (d:D) (v:Value),ds[i]? = some d→vs[i]? = some v→d.rep A w v)→D.reps A w ds vs
 | [],[],_,_=>by simp only [D.reps]
 | d::ds,v::vs,hl,h=>by
  simp only [D.reps];exact ⟨v,vs,rfl,h 0 d v rfl rfl,D.zwC (by simpa using hl) λi d' v' h1 h2=>h (i+1) d' v' (by simpa using h1) (by simpa using h2)⟩
 | [],_::_,hl,_=>by simp at hl
 | _::_,[],hl,_=>by simp at hl
theorem zlC {w g f cur e fr} (hb:w.heap[g]? = some (.cells cur e fr)):mapBlock w g f=w.setRow g (f cur):=by
 unfold mapBlock World.setRow;congr 1;apply Array.ext_getElem?;intro i;simp only [Array.getElem?_modify];split
 ·rename_i h;subst h;simp [hb,onCells]
 ·rfl
theorem TriL.sort1 {P C ops o rest Q T H} {ρ:Ren} (L:SlLaysF.n6 P ρ) {α:Type} {F} {tys:Array TypeId} {x y el} {i n g:Nat} {enc:α→D} {l r:List α} {cmp:α→α→Option Int}
  (hF:ρ.f 6=F) (hg:o.guard=none) (ho:o.op = .call { callee:=.value (.func F),args:=#[x,y],argTypes:=tys }) (hd:zup o.dst C.n=true) (hc:ztT P F=true) (hcg:ztT P g=true)
  (hx:ev T x=some (.vec i n)) (hy:ev T y=some (.d (.fn (.func g) [] []))) (hi:H[i]? = some (.vec el 1 (l.map enc))) (hn:n=l.length) (h1:∀ x,(enc x).shape=none) (h2:∀ x,(enc x).ones=true) (hs:zxA cmp l=some r)
  (hp:∀ a b v,cmp a b=some v→@Pure ‹ztS› DT P g [enc a,enc b] (.int v))
  (kk:TriL P C ops rest Q ((⟨T,H.set i (.vec el 1 (r.map enc))⟩:St).put o.dst .junk)):TriL P C ops (o::rest) Q ⟨T,H⟩:=by
 subst hF;obtain ⟨hsome,hswo,hlen,rfl⟩:=zm0 hs;refine ⟨λbs a w hR=>wpList_plain hg λK hK=>?_⟩;have hxr:=hR.ev hx;have hyr:=hR.ev hy;simp only [V.rep,hi] at hxr;simp only [V.rep,D.rep,D.reps] at hyr;obtain ⟨vs,us,hyv,hv0,hu0⟩:=hyr;have hv0:vs = #[]:=by simpa using hv0
 have hu0:us = #[]:=by simpa using hu0
 subst hv0 hu0;obtain ⟨cells,hown,hbs,hflat⟩:=hxr.2 (by simpa using hn);have hrun:(execOp a.eval o).run P w = .ok (.enter (ρ.f 6) #[a.eval x,a.eval y]) w:=by
  have hk:∀ k,a.eval (.func k) = .func (.func k) #[] #[]:=λ_=>rfl
  simp only [execOp,ho,resolve,hk,Deferred.ofValue,Sem.run_bind,Sem.run_pure,Result.andThen_ok,invoke];simpa using zaW hc #[a.eval x,a.eval y] w
 have hR':∀ {w':World} {H':List Blk} {u:Value},R C bs ⟨T,H'⟩ a w'→R C bs ((⟨T,H'⟩:St).put o.dst .junk) (a.put o.dst u) w':=λh=>h.put (Fr.refl _ _) o.dst hd (v:=.junk) (by simp only [V.rep])
 refine Oper.zu5 (K:=λu w'=>R C bs ⟨T,H.set i (.vec el 1 ((zwD (λx y=>(cmp x y).getD 0) l).map enc))⟩ a w') ?_ λu w' h=>hK _ _ (kk.run bs _ _ (hR' h))
 rw [hrun];simp only [zgl];have hshape:∀ (l:List α),∀ d∈l.map enc,d.shape=none:=λl d hd=>by
  obtain ⟨z,_,rfl⟩:=yZ.1 hd;exact h1 z
 cases l with
 | nil=>
  have hset:H.set i (.vec el 1 ((zwD (λx y=>(cmp x y).getD 0) ([]:List α)).map enc))=H:=by
   refine ud λj=>?_
   by_cases hij:i=j
   ·subst hij;rw [yu (yc.1 hi).1,hi];rfl
   ·rw [yw hij]
  rw [hset];have hn0:n=0:=by simpa using hn
  subst hn0;have hxv:∃ p cap,a.eval x = .slice p 0 cap:=by
   rcases hown.2 with ⟨h,_⟩ | ⟨g',cap,cur,h,_⟩
   ·exact ⟨_,_,h⟩
   ·exact ⟨_,_,h⟩
  obtain ⟨p,cap,hxv⟩:=hxv;rw [hxv];refine (AnyF.slices_SortFunc_none { L with } p cap (a.eval y) w).mono ?_;rintro e w' ⟨rfl,rfl⟩;exact ⟨_,rfl,hR⟩
 | cons z zs=>
  obtain ⟨k,hk⟩:∃ k,k=zs.length:=⟨_,rfl⟩
  have hnk:n=k+1:=by rw [hn,hk];rfl
  obtain ⟨gb,cap,cur,hxv,_,hheap,hncap,hcapm,hcurs,htake⟩:=hown.2.resolve_left (λh=>by omega);have hob:bs[i]? = some (some gb):=by rw [hbs,hxv];rfl
  have hcl:cells.length=k+1:=by rw [hown.1,hnk];simp
  obtain ⟨vals,hvals⟩:∃ vals:Fin (k+1)→Value,∀ j:Fin (k+1),cells[j.val]? = some (vals j):=
   ⟨λj=>cells[j.val]'(by have:=j.isLt;omega),λj=>yC _⟩
  have hll:(z::zs).length=k+1:=by rw [hk];rfl
  obtain ⟨el',hel⟩:∃ el':Fin (k+1)→α,∀ j:Fin (k+1),(z::zs)[j.val]? = some (el' j):=
   ⟨λj=>(z::zs)[j.val]'(by have:=j.isLt;omega),λj=>yC _⟩
  have hreps:=(D.zwr (hshape (z::zs))).1 hflat
  have hval:∀ j,(enc (el' j)).rep (Own C.A0 bs) w (vals j):=by
   intro j;obtain ⟨v,hv,hr⟩:=D.zuE hreps j.val (enc (el' j)) (by rw [y9,hel j];rfl);rw [hvals j] at hv;cases hv;exact hr
  have hmem:∀ j,el' j∈z::zs:=λj=>yx (hel j)
  have hO:SWO (ltOf λp q:Fin (k+1)=>(cmp (el' p) (el' q)).getD 0):=zrQ hswo el' hmem;have hAlt:∀ b,Own C.A0 bs b→b<w.heap.size:=λb hb=>hb.elim (hR.own.zt4 b) (hR.own.lt b)
  have hgb:Own C.A0 bs gb:=.inr (yx hob);have hcmp:CmpLays1 P g #[] vals (λp q:Fin (k+1)=>(cmp (el' p) (el' q)).getD 0) gb 0 (k+1) w:=zo8 hAlt hR.own.glob hgb hval λp q=>by
   obtain ⟨v,hv⟩:=Option.isSome_iff_exists.1 (hsome _ (hmem p) _ (hmem q));have:=hp _ _ _ hv;rw [hv];exact this
  have hone:OneCell vals:=λj=>D.zvK (λd hd=>by obtain ⟨q,_,rfl⟩:=yZ.1 hd;exact h2 q) hflat _ (yx (hvals j))
  have eg:∀ args w,(callFunc g args).run P w = .ok (.enter g args) w:=λargs w=>zaW hcg args w
  have hH:Holds vals w gb 0 (Array.ofFn (n:=k+1) id):=by
   intro j hj;have hj':j<k+1:=by simpa using hj
   refine ⟨?_,by simp [World.frozen?,hheap]⟩;rw [getElem!_pos _ j hj,uk,zV hheap];have h2:(cur.toList.take (n*1))[j]? = cells[j]?:=by rw [htake]
   rw [List.getElem?_take_of_lt (by omega)] at h2;rw [← y0,h2];have:=hvals ⟨j,hj'⟩;simpa using this
  have hcon:=Any.slices_SortFunc_eq L vals hone (λp q:Fin (k+1)=>(cmp (el' p) (el' q)).getD 0) hO g #[] gb 0 cap (Array.ofFn (n:=k+1) id) w eg (by simpa using hcmp) hH (yn.1 hheap).1 (by have:=hlen;rw [hll] at this;simpa using this);rw [hxv,hyv];have hsz:(Array.ofFn (n:=k+1) (id:Fin (k+1)→Fin (k+1))).size=k+1:=by simp
  rw [hsz] at hcon;rw [hnk];refine hcon.mono ?_;rintro e w' ⟨rfl,m,os,rfl⟩;refine ⟨_,rfl,?_⟩;change R C bs ⟨T,_⟩ a (sortWorld vals w gb 0 m (ze5 k λp q:Fin (k+1)=>(cmp (el' p) (el' q)).getD 0) os);have hsp:=zir hO;obtain ⟨ix,hix⟩:∃ ix,ix=ze5 k λp q:Fin (k+1)=>(cmp (el' p) (el' q)).getD 0:=⟨_,rfl⟩
  rw [← hix] at hsp ⊢;have hres:zwD (λx y=>(cmp x y).getD 0) (z::zs)=ix.toList.map el':=by
   have hel':∀ (j:Fin (zs.length+1)),el' (j.cast (by rw [hk]))=(z::zs)[j.val]'(by simp):=λj=>by
    have:=hel (j.cast (by rw [hk]));rw [yC (by simp)] at this;simpa using this.symm
   subst hk;have hel2:el'=λj=>(z::zs)[j.val]'(by simp):=funext λj=>hel' j
   rw [hix,hel2];rfl
  rw [hres];have hnew:(putCells vals 0 ix cur).toList.take ((k+1)*1)=ix.toList.map vals:=by
   apply ud;intro j;have hcs:k+1≤cur.size:=by rw [hcurs];omega
   by_cases hj:j<k+1
   ·rw [List.getElem?_take_of_lt (by omega),y0];have hj2:j<ix.size:=by rw [hsp.1];exact hj
    simp [putCells,hj2,show j<cur.size by omega,getElem!_pos ix j hj2]
   ·rw [List.getElem?_take_eq_none (by omega),List.getElem?_eq_none (by simp [hsp.1];omega)]
  have hw1:sortWorld vals w gb 0 m ix os=grow (Sort.ahead (w.setRow gb (putCells vals 0 ix cur)) m) os:=by
   unfold sortWorld;rw [putRow_ahead];unfold putRow;rw [zlC hheap]
  rw [hw1];have hR1:R C bs ⟨T,H.set i (.vec el 1 ((ix.toList.map el').map enc))⟩ a (w.setRow gb (putCells vals 0 ix cur)):=by
   refine R.zyt (cur:=cur) hR hi hob hheap (by simp [putCells]) (by simp [hsp.1,hk]) ?_ (by simp);have e1:((z::zs).map enc).length*1=(k+1)*1:=by simp [hk]
   rw [e1,hnew];refine (D.zwr (hshape _)).2 (D.zwC (by simp) λj d v hd hv=>?_);simp only [y9,Option.map_eq_some_iff] at hd hv;obtain ⟨q,⟨p,hp1,rfl⟩,rfl⟩:=hd;obtain ⟨p',hp2,rfl⟩:=hv;rw [hp1] at hp2;cases hp2;exact hval p
  have hfr:Fr ze (w.setRow gb (putCells vals 0 ix cur)) (grow (Sort.ahead (w.setRow gb (putCells vals 0 ix cur)) m) os):=
   ⟨rfl,rfl,rfl,by simp [Sort.ahead],λb hb _=>by rw [heap_grow_old _ _ (by simpa [Sort.ahead] using hb)];rfl,λ_=>Nat.le_add_right _ _⟩
  exact hR1.put hfr none rfl (v:=.junk) (u:=Go.undef) (by simp only [V.rep])
end
section
open Go Go.RowKit Go.Sort Go.Shelf
variable [ztS] [Drw]
theorem D.zwz {A w k}:∀ {xs:List D} {cs:List Value},cs.length=xs.length*k→(∀ (j:Nat) (hj:j<xs.length),∃ u,D.rep A w xs[j] u∧u.cells.size=k∧∀ q,q<k→cs[j*k+q]? = u.cells[q]?)→D.flat A w k xs cs
 | [],cs,hl,_=>by
  have:cs=[]:=y6 (by simpa using hl);subst this;simp [D.flat]
 | x::xs,cs,hl,h=>by
  obtain ⟨u,h1,h2,h3⟩:=h 0 (by simp);simp only [D.flat];refine ⟨u,cs.drop k,?_,h2,by simpa using h1,D.zwz (by rw [ua,hl,yR,uo];omega) λj hj=>?_⟩
  ·have:cs.take k=u.cells.toList:=by
    apply ud;intro q;by_cases hq:q<k
    ·rw [List.getElem?_take_of_lt hq];have:=h3 q hq;simpa using this
    ·rw [List.getElem?_take_eq_none (by omega),List.getElem?_eq_none (by simp [h2];omega)]
   rw [← this,uB]
  ·obtain ⟨u,g1,g2,g3⟩:=h (j+1) (by simpa using hj);refine ⟨u,by simpa using g1,g2,λq hq=>?_⟩;rw [uR,← g3 q hq];congr 1;rw [uo];omega
end
section
variable [ztS] [Drw]
theorem zoC {A w}:∀ {ds:List D} {us:List Value} (i:Nat) {d:D} {u:Value},D.reps A w ds us→D.rep A w d u→D.reps A w (ds.set i d) (us.set i u)
 | [],us,i,d,u,h,_=>by simp only [D.reps] at h;subst h;simp [D.reps]
 | x::ds,us,0,d,u,h,hd=>by
  simp only [D.reps] at h;obtain ⟨v,us',rfl,h1,h2⟩:=h;simp only [List.set_cons_zero,D.reps];exact ⟨u,us',rfl,hd,h2⟩
 | x::ds,us,i+1,d,u,h,hd=>by
  simp only [D.reps] at h;obtain ⟨v,us',rfl,h1,h2⟩:=h;simp only [List.set_cons_succ,D.reps];exact ⟨v,us'.set i u,rfl,h1,zoC i h2 hd⟩
theorem D.zx9 {A w k} {xs:List D} {cs:List Value} {ds:List D} {j off:Nat} {dy:D} {v:Value} (h:D.flat A w k xs cs) (hj:j<xs.length) (e:xs[j] = .agg ds) (ho:off<k) (hv:D.rep A w dy v) :
  D.flat A w k (xs.set j (.agg (ds.set off dy))) (cs.set (j*k+off) v):=by
 have hlen:=D.zu6 h;have hmul:∀ {a b:Nat},a<b→a*k+k≤b*k:=λ{a b} hab=>by rw [← uo];exact yS _ hab
 refine D.zwz (by simp [hlen]) λq hq=>?_
 simp only [List.length_set] at hq;obtain ⟨u,h1,h2,h3⟩:=D.zwq h q hq;by_cases hjq:j=q
 ·subst hjq;rw [e] at h1;simp only [D.rep] at h1;obtain ⟨vs,rfl,hr⟩:=h1;refine ⟨.agg (vs.toList.set off v).toArray,?_,?_,λp hp=>?_⟩
  ·rw [List.getElem_set_self];simp only [D.rep];exact ⟨_,rfl,by simpa using zoC off hr hv⟩
  ·simpa [Value.cells] using h2
  ·have h3:=h3 p hp;simp only [Value.cells] at h3 h2 ⊢;by_cases hpo:off=p
   ·subst hpo;have hlt:j*k+off<cs.length:=by rw [hlen];have:=hmul hj;omega
    rw [yu hlt];simp [h2,ho]
   ·rw [yw (by omega),h3];simp [hpo]
 ·rw [List.getElem_set_ne hjq];refine ⟨u,h1,h2,λp hp=>?_⟩;rw [← h3 p hp];refine yw λe2=>?_
  rcases Nat.lt_or_gt_of_ne hjq with hlt | hlt
  ·have:=hmul hlt;omega
  ·have:=hmul hlt;omega
theorem TriL.storeElF {P C ops o rest Q T H} {α:Type} {t el x y} {i n k off:Nat} {enc:α→D} {l r:List α} {x0 z:α} {a:Int} {ds:List D} {dy:D}
  (hg:o.guard=none) (ho:o.op = .store t x y) (hd:o.dst=none) (hx:ev T x=some (.el i n a.toNat off)) (hi:H[i]? = some (.vec el k (l.map enc))) (hn:n=l.length) (hy:ev T y=some (.d dy)) (hk:dy.shape=none) (h1:dy.ones=true)
  (hs:cellsOf P t=some 1) (h0:idx l a=some x0) (e0:enc x0 = .agg ds) (ez : .agg (ds.set off dy)=enc z) (hok:Nat.blt off k=true) (hv:sto l a z=some r)
  (kk:TriL P C ops rest Q ⟨T,H.set i (.vec el k (r.map enc))⟩):TriL P C ops (o::rest) Q ⟨T,H⟩:=by
 obtain ⟨j,rfl,hj,rfl⟩:=stoS hv;have hok:off<k:=by simpa using hok
 have hx0:l[j]=x0:=by
  have:=h0;simp [idx,hj] at this;exact this
 refine TriL.step hg (λbs a w hR=>?_) kk;have hp:=hR.ev hx;have hz:=hR.ev hy;simp only [V.rep] at hz;simp only [V.rep,hi] at hp;obtain ⟨hdr,cells,g1,g2,g3,b,g4,g5⟩:=hp.2 (by simpa using hn);simp only [yz] at g5;rcases g1.2 with ⟨h,h0⟩ | ⟨g,cap,cur,hh,_,hheap,hnc,hcm,hcs,htake⟩
 ·omega
 obtain rfl:g=b:=by rw [hh] at g4;simpa [Value.ownBlock] using g4
 have hone:∀ c∈(Act.eval a y).cells.toList,c.oneCell'=true:=D.zvN hz h1;have hyv:=D.zui hz hk;generalize hv0:Act.eval a y=v at *;have hjk:j*k+k≤n*k:=by rw [← uo];exact yS _ (by omega)
 have hnk:n*k≤cap*k:=yS _ hnc;have hst:=run_storeCells_at P g (j*k+off) el [v] 0 cur w hheap (by simp [hcs];omega) (by rw [hyv] at hone;simpa using hone);simp only [ut,uA] at hst;unfold cellsOf at hs;cases hinf:P.info? t with
 | none=>simp [hinf] at hs
 | some inf=>
  simp only [hinf,yT,yj] at hs;have hrow:(cur.toList.take (j*k+off)++[v]++cur.toList.drop (j*k+off+1)).toArray=(cur.toList.set (j*k+off) v).toArray:=by
   rw [List.set_eq_take_append_cons_drop,if_pos (by simp [hcs];omega)];simp
  have hrun:(execOp a.eval o).run P w = .ok .skip (w.setRow g (cur.toList.set (j*k+off) v).toArray):=by
   rw [← hrow];simp only [execOp,ho,g5,Instr.storeAt,Instr.sureAddr,storeVar,sizeOf,typeInfo,program,Sem.run_bind,Sem.run,hinf,Sem.run_pure,Result.andThen_ok,hv0,hyv,hs,ne_eq,not_true_eq_false,if_false,uI,uA];rw [hs] at *;simp [hst]
  have hfr:Fr (λc=>some g=some c) w (w.setRow g (cur.toList.set (j*k+off) v).toArray):=
   ⟨rfl,rfl,rfl,by simp,λc _ hno=>setRow_other w g c _ (λe=>hno (by rw [e])),λ_=>yk _⟩
  have hset:bs.set i (some g)=bs:=by
   refine ud λq=>?_
   by_cases hij:i=q
   ·subst hij;rw [yu (yc.1 g2).1,g2,g4]
   ·rw [yw hij]
  have hWA:∀ c,some g=some c→Own C.A0 bs c:=λc hc=>.inr (by rw [← hc];rw [g4] at g2;exact yx g2)
  have hupd:=R.upd (y:=.vec el k ((l.set j z).map enc)) (c:=some g) (c':=some g) hR hi (by rw [g2,g4]) (by
   simp only [Compat];refine .inr ⟨by simp,trivial,trivial,λv2 cells' q1 q2 q3=>?_⟩;rcases q1.2 with ⟨h,h0⟩ | ⟨g',cap',cur',hh',_,hheap',hnc',hcm',hcs',htake'⟩
   ·simp only [yL] at h0;omega
   obtain rfl:g=g':=by rw [hh'] at q2;simpa [Value.ownBlock] using q2
   rw [hheap] at hheap';cases hheap';have hn':(l.map enc).length=n:=by simp [hn]
   rw [hn'] at htake' q1 hnc' ⊢;have hcells:cells'=cells:=by rw [← htake',← htake]
   subst hcells;have hfl:D.flat (Own C.A0 bs) w k ((l.map enc).set j (.agg (ds.set off dy))) (cells'.set (j*k+off) v):=D.zx9 q3 (by simpa using hj) (by simp [hx0,e0]) hok hz;rw [ez] at hfl;refine ⟨_,⟨?_,.inr ⟨g,cap',_,by rw [hh',hn'],yp _,setRow_heap w g cur _ el _ hheap,hnc',hcm',?_,?_⟩⟩,D.zug hfr hWA (λc _ hc=>by rw [hset] at hc;exact hc) _ _ (by rw [List.map_set];exact hfl)⟩
   ·have:=q1.1;simpa using this
   ·simpa using hcs'
   ·rw [← htake];simp only [Nat.zero_mul,List.drop_zero];rw [List.take_set]) hfr (.inl rfl) (by simp only [Blk.rep])
  refine ⟨_,_,bs,hrun,.inr ⟨rfl,?_⟩⟩;rw [hset] at hupd;rw [hd];exact hupd
end
section
open Go Go.RowKit Go.Shelf Go.Lib
variable [ztS] [Drw]
theorem zr4 {P:Program} {ρ:Ren} (L:Lays8.n4 P ρ) {f:FuncId} {t el:TypeId} {k bytes:Nat} {n:Int} (hf:ρ.f 4=f) (hel:ρ.t 25=el) (ht:zbq P t el k bytes=true) (hb:Nat.blt 0 bytes=true) (h0:0≤n) (hn:n.toNat*bytes≤140737488355328) :
  zxb P f [.val (.slice none 0 0),.int n] el k (λl=>l=[]):=by
 subst hf;subst hel;obtain ⟨htu,hk0,inf,z,hinf,hz,hisz,hib,hzc⟩:=zbA ht;have hb:0<bytes:=by simpa using hb
 obtain ⟨m,rfl⟩:=yW h0;simp only [yz] at hn;have hm:m≤140737488355328:=yJ (Nat.le_mul_of_pos_right m hb) hn;refine ⟨λA w vs hA hG hvs=>?_⟩;have hvs':vs = #[.slice none 0 0,.int .i64 m]:=by
  simp only [D.reps,D.rep] at hvs;obtain ⟨v1,vs1,e1,rfl,v2,vs2,rfl,rfl,rfl⟩:=hvs;exact Array.toList_inj.1 (by simpa using e1)
 subst hvs';by_cases hm0:m=0
 ·subst hm0;refine Calls.mono (Any8.slices_Grow_room L none 0 0 0 w (by omega) (by omega) (by omega) (by omega)) λe w' h=>?_
  obtain ⟨rfl,rfl⟩:=h;exact ⟨_,[],[],rfl,rfl,Fr.refl _ _,⟨by simp,.inl ⟨rfl,rfl⟩⟩,by simp only [D.flat]⟩
 ·refine Calls.mono (Any8.slices_Grow_grow L inf z hinf hz (by omega) none 0 0 m [] w (by omega) (by omega) (by rw [uk,hib];exact hn) (by omega) (by simp) (λ_=>rfl) (λ_ h=>by cases h)) λe w' h=>?_
  obtain ⟨rfl,rfl⟩:=h;have hge:=grownCap_ge w (0+m) 0 (ρ.t 25);simp only [uk] at hge;have hcm:=grownCap_le_maxLen w (0+m) 0 (ρ.t 25) (by simp only [maxLen];omega);refine ⟨_,[],[],rfl,rfl,⟨rfl,rfl,rfl,by simp,λb hb _=>by first | exact heap_alloc_old w.drew _ b hb | exact heap_alloc_old w.drew _ hb,λ_=>by simp⟩,⟨by simp,.inr ⟨w.heap.size,_,_,rfl,yk _,heap_alloc_new w.drew _,yp _,hcm,?_,by simp⟩⟩,by simp only [D.flat]⟩;simp only [Array.size_append,uI,un,size_zeroCells,hzc,uk,Nat.sub_zero,← Nat.add_mul];congr 1;omega
theorem TriL.growNil {P:Program} {C:Ctx} {ops:Array Oper} {o:Oper} {rest:List Oper} {Q:Exit→St→Prop} {T:List (Nat×V)} {H:List Blk} {α:Type} {enc:α→D} {f args tys n el k d} (hg:o.guard=none) (ho:o.op = .call { callee:=.value (.func f),args:=args,argTypes:=tys }) (hd:o.dst=some d) (hdn:Nat.blt d C.n=true) (hc:ztT P f=true)
  (ha:evs (ev T) args.toList=some [.val (.slice none 0 0),.int n]) (hp:zxb P f [.val (.slice none 0 0),.int n] el k (λl=>l=[]))
  (kk:TriL P C ops rest Q ⟨(d,.vec H.length ([]:List α).length)::T,H++[.vec el k (([]:List α).map enc)]⟩):TriL P C ops (o::rest) Q ⟨T,H⟩:=
 .zx2 hg ho hd hdn hc ha hp λl hl=>by subst hl;exact kk
end
section
def Guard (P:Program) (g:FuncId) (tb te:TypeId) (pv:Value):Prop:=∀ (K:Bool→World→Prop) (f:FuncId) (caps:Array Value) (w:World),ztT P f=true →
 (Calls P f caps (w.alloc (.cells #[.bool false] tb)) λe w'=>w'.cell? ⟨w.heap.size,0,none⟩=some (.bool false)∧w'.frozen? ⟨w.heap.size,0,none⟩=false ∧
   ((∃ u,e = .returned u∧K true ((w'.setCell ⟨w.heap.size,0,none⟩ (.bool true)).setCell ⟨w.heap.size,0,none⟩ (.bool true)))∨(e = .panicked [{ v:=pv,recovered:=false }]∧K false (w'.alloc (.cells #[] te))))) →
 Calls P g #[.func (.func f) #[] caps] w λe w'=>∃ b,e = .returned (.bool b)∧K b w'
variable [ztS] [Drw]
theorem TriL.guardC {P C ops o rest Q T H f fn c xs N g tb te pv x tys} (hG:Guard P g tb te pv)
  (hg:o.guard=none) (hd:zup o.dst C.n=true) (ho:o.op = .call { callee:=.value (.func g),args:=#[x],argTypes:=tys }) (hx:ev T x=some (.fn (.func f) [] xs)) (hcg:ztT P g=true) (hcf:ztT P f=true)
  (hf:P.funcs[f]? = some fn) (hb:fn.body=some c) (hN:fn.ntmps=N) (hrs:fn.results = #[]) (hn:Nat.ble xs.length N=true)
  (hu:(T.all λp=>p.2.under H.length)=true) (hgn:Nat.ble C.gn H.length=true)
  (h:∀ (A0 own0:Nat→Prop) (w:World) (gh:List (V×Value)),Tri P ⟨A0,own0,w,N,λ_ _=>False,gh,H.length,[]⟩ c (λe s=>((e = .ret∨e = .normal)∧TriL P C ops rest Q ⟨putT T o.dst (.d (.bool true)),s.H++[.dead]⟩)∨(e = .panic [{ v:=pv,recovered:=false }]∧TriL P C ops rest Q ⟨putT T o.dst (.d (.bool false)),s.H++[.dead]⟩)) ⟨zbQ 0 xs,H⟩):TriL P C ops (o::rest) Q ⟨T,H⟩:=by
 subst hN;have hgn:=yf hgn;have hn:=yf hn;refine ⟨λbs a w hR=>wpList_plain hg λK hK=>?_⟩;have h1:=hR.ev hx;simp only [V.rep] at h1;obtain ⟨fs,caps,hfv,hfs,hvs⟩:=h1;have hfs:fs = #[]:=by
  simp only [V.reps] at hfs;exact Array.toList_inj.1 (by simpa using hfs)
 subst hfs;have hlen:=V.zu3 hvs;simp only [yt] at hlen;have hrun:(execOp a.eval o).run P w = .ok (.enter g #[.func (.func f) #[] caps]) w:=by
  have hk:∀ k,a.eval (.func k) = .func (.func k) #[] #[]:=λ_=>rfl
  simp only [execOp,ho,resolve,hk,Deferred.ofValue,Sem.run_bind,Sem.run_pure,Result.andThen_ok,invoke];simpa [hfv] using zaW hcg (#[x].map a.eval) w
 unfold Oper.wp;rw [hrun];simp only [Oper.upon];have hsz0:w.heap.size<(w.alloc (.cells #[.bool false] tb)).heap.size:=by simp
 have hfr1:Fr ze w (w.alloc (.cells #[.bool false] tb)):=⟨rfl,rfl,rfl,by simp,λb hb _=>Below.heap_alloc w _ b hb,λ_=>yk _⟩
 have hR1:=hR.zuO (A:=λb=>C.A0 b∨b=w.heap.size) hfr1 (λb hb hA=>hA.elim id λe=>by omega) (λb hA=>hA.elim (λhA=>Nat.lt_trans (hR.own.zt4 b hA) hsz0) λe=>by omega);refine Calls.mono (hG (λb w'=>∃ bs' H',TriL P C ops rest Q ⟨putT T o.dst (.d (.bool b)),H'⟩∧R C bs' ⟨T,H'⟩ a w') f caps w hcf ?_) ?_
 case refine_2=>
  rintro e w' ⟨b,rfl,bs',H',hk,hR'⟩;have:=hR'.put (Fr.refl _ _) o.dst hd (v:=.d (.bool b)) (u:=.bool b) (by simp only [V.rep,D.rep]);rw [St.put_eq] at this;exact hK _ _ (hk.run bs' _ _ this)
 refine calls_of_wp hf hb ?_;have h0:=h (λb=>C.A0 b∨b=w.heap.size) (λb=>some b∈bs) (w.alloc (.cells #[.bool false] tb)) (C.gh++vals a T T);have hvs1:V.reps (Own (λb=>C.A0 b∨b=w.heap.size) bs) (w.alloc (.cells #[.bool false] tb)) bs H xs caps.toList:=by
  have:=hR1.ev hx;simp only [V.rep] at this;obtain ⟨fs',caps',e1,-,h2⟩:=this;rw [hfv] at e1;cases e1;exact h2
 have hR0:R ⟨λb=>C.A0 b∨b=w.heap.size,λb=>some b∈bs,w.alloc (.cells #[.bool false] tb),fn.ntmps,λ_ _=>False,C.gh++vals a T T,H.length,[]⟩ bs ⟨zbQ 0 xs,H⟩ { tmps:=caps++Array.replicate (fn.ntmps - caps.size) undef,defers:=[] } (w.alloc (.cells #[.bool false] tb)):=by
  have hsz:(caps++Array.replicate (fn.ntmps - caps.size) undef).size=fn.ntmps:=by simp;omega
  refine ⟨hR1.own,hR1.len,hR1.blk,λt v hv=>?_,rfl,hsz,Fr.refl _ _,λb hb=>.inl hb,λp hp=>?_⟩
  ·have:=zcR xs 0 caps.toList (caps++Array.replicate (fn.ntmps - caps.size) undef) hvs1
    (λj hj=>by
     have hj':j<caps.size:=by simpa using hj
     simp [yN,Array.getElem?_append,hj',List.getD])
    (by rw [hsz];simp;omega) t v hv
   rw [hsz] at this;exact this
  ·rcases yr.1 hp with hp | hp
   ·exact ⟨V.zu4 hgn _ (hR1.gh p hp).1,(hR1.gh p hp).2⟩
   ·obtain ⟨t,h1,h2⟩:=zd8 hp;exact ⟨zdr hu h1,by rw [h2];exact (hR1.tmp t _ h1).2⟩
 refine Code.wp_mono ?_ (h0.run bs _ _ hR0);rintro e a' w' (⟨bs',s',hQ,hR'⟩ | ⟨_,hE⟩)
 case inr=>exact hE.elim
 have f1:=hR'.fr;have hnot:some w.heap.size∉bs:=λhc=>by
  have:=hR.own.lt _ hc;omega
 have hblk:w'.heap[w.heap.size]? = some (.cells #[.bool false] tb (0,0)):=by
  rw [f1.block w.heap.size hsz0 hnot];exact heap_alloc_new w _
 have hcell:w'.cell? ⟨w.heap.size,0,none⟩=some (.bool false):=by rw [zV hblk];rfl
 have hfroz:w'.frozen? ⟨w.heap.size,0,none⟩=false:=by
  simp [World.frozen?,hblk]
 have hRC:R { C with A0:=λb=>C.A0 b∨b=w.heap.size } bs' ⟨T,s'.H⟩ a w':=by
  refine ⟨hR'.own,hR'.len,hR'.blk,λt v hv=>⟨(hR.tmp t v hv).1,(hR'.gh _ (List.mem_append_right _ (zdG hv hv))).2⟩,hR.defers,hR.size,?_,λb hb=>?_,λp hp=>⟨(hR.gh p hp).1,(hR'.gh p (List.mem_append_left _ hp)).2⟩⟩
  ·refine ⟨f1.os.trans hR.fr.os,f1.tape.trans hR.fr.tape,f1.output.trans hR.fr.output,yJ hR.fr.size (yJ hfr1.size f1.size),λq hq hno=>?_,λd=>yJ (hR.fr.drawn d) (f1.drawn d)⟩;have hq:q<C.w0.heap.size:=hq;have hqw:q<w.heap.size:=yD hq hR.fr.size;refine ((f1.block q (Nat.lt_trans hqw hsz0) λe=>?_).trans (hfr1.block q hqw λx=>x.elim)).trans (hR.fr.block q hq hno);rcases hR.new q e with e | e
   ·exact hno e
   ·exact absurd (show C.w0.heap.size≤q from e) (by omega)
  ·rcases hR'.new b hb with h1 | h1
   ·exact hR.new b h1
   ·exact .inr (yJ hR.fr.size (yJ hfr1.size h1))
 have hlo:C.w0.heap.size≤w.heap.size:=hR.fr.size;have hnA:¬ C.A0 w.heap.size:=λhc=>absurd (hR.own.zt4 _ hc) (Nat.lt_irrefl _)
 have hin:∀ w3,R { C with A0:=λb=>C.A0 b∨b=w.heap.size } bs' ⟨T,s'.H⟩ a w3→∀ b,TriL P C ops rest Q ⟨putT T o.dst (.d (.bool b)),s'.H++[.dead]⟩→∃ bs'' H',TriL P C ops rest Q ⟨putT T o.dst (.d (.bool b)),H'⟩∧R C bs'' ⟨T,H'⟩ a w3:=λw3 h3 b hk=>by
  have hlt3:w.heap.size<w3.heap.size:=h3.own.zt4 _ (.inr rfl);obtain ⟨ob,hob⟩:∃ ob,w3.heap[w.heap.size]? = some ob:=⟨_,um hlt3⟩
  exact ⟨_,_,hk,R.adoptK (C:=C) (A:=C.A0) .dead h3 hob hnA hlo (by simp only [Blk.rep])⟩
 rcases hQ with ⟨he,hk⟩ | ⟨rfl,hk⟩
 ·have hfr2:Fr (λq=>some w.heap.size=some q) w' ((w'.setCell ⟨w.heap.size,0,none⟩ (.bool true)).setCell ⟨w.heap.size,0,none⟩ (.bool true)):=by
   refine ⟨rfl,rfl,rfl,by simp,λq _ hno=>?_,λ_=>yk _⟩;have hne:q≠w.heap.size:=λe=>hno (by rw [e])
   rw [Below.heap_setCell _ _ _ _ hne,Below.heap_setCell _ _ _ _ hne]
  have h3:=hin _ (hRC.zt4 hfr2 (.inr rfl) hlo) true hk;rcases he with rfl | rfl
  ·exact ⟨hR'.defers,.tuple #[],by rw [zb1,hrs];simp,hcell,hfroz,.inl ⟨_,rfl,h3⟩⟩
  ·exact ⟨hR'.defers,.tuple #[],by rw [zb1,hrs];simp,hcell,hfroz,.inl ⟨_,rfl,h3⟩⟩
 ·have hfr2:Fr ze w' (w'.alloc (.cells #[] te)):=⟨rfl,rfl,rfl,by simp,λb hb _=>Below.heap_alloc w' _ b hb,λ_=>yk _⟩
  have h2:=hRC.put hfr2 none rfl (v:=.junk) (u:=undef) (by simp only [V.rep]);have h3:=hin _ h2 false hk;exact ⟨hR'.defers,hcell,hfroz,.inr ⟨rfl,h3⟩⟩
end
section
variable [ztS] [Drw]
def zyg (ops:Array Oper):Nat→Nat→Array Bool→Bool
 | 0,_,listed=>decide (Region.ready .any ops listed=[])
 | f+1,i,listed=>decide (Region.ready .any ops listed=[i])&&zyg ops f (i+1) (listed.setIfInBounds i true)
theorem zmb {P:Program} {ops:Array Oper} {Q:Exit→Act→World→Prop}:∀ (f i:Nat) (listed:Array Bool) (a:Act) (w:World),zyg ops f i listed=true→(ops.toList.drop i).length=f→wpList P ops Q (ops.toList.drop i) a w→wpAny P .any ops Q f listed a w
 | 0,i,listed,a,w,hl,hd,h=>by
  have h0:ops.toList.drop i=[]:=y6 hd;rw [h0] at h;simp only [zyg,yg] at hl;exact ⟨hl,h⟩
 | f+1,i,listed,a,w,hl,hd,h=>by
  simp only [zyg,yd,yg] at hl;have hi:i<ops.toList.length:=by simp at hd ⊢;omega
  have hc:ops.toList.drop i=ops.toList[i]::ops.toList.drop (i+1):=List.drop_eq_getElem_cons hi;have hd2:(ops.toList.drop (i+1)).length=f:=by simp at hd ⊢;omega
  have hoi:ops[i]? = some ops.toList[i]:=by simp at hi;simp [hi]
  rw [hc] at h;refine ⟨λh0=>(by rw [hl.1] at h0;cases h0),λj hj=>?_⟩;rw [hl.1] at hj;obtain rfl:j=i:=by simpa using hj
  unfold wpOp;simp only [hoi];unfold wpList at h;split
  ·rename_i hw;rw [if_pos hw] at h;exact h.imp (Oper.wp_mono λa w h=>zmb f _ _ a w hl.2 hd2 h) id
  ·rename_i hw;rw [if_neg hw] at h;exact zmb f _ _ _ w hl.2 hd2 h
theorem TriA.lin {P C ops fuel listed Q s} (i:Nat) (hl:zyg ops fuel i listed=true) (hd:(ops.toList.drop i).length=fuel) (h:TriL P C ops (ops.toList.drop i) Q s):TriA P C ops fuel listed Q s:=
 ⟨λbs a w hR=>zmb fuel i listed a w hl hd (h.run bs a w hR)⟩
theorem Tri.drawB {P C Q s id l} (n) (hm:P.follows .mixedOrders=true) (hn:l.size=n) (h:TriA P C l n (Array.replicate n false) Q s):Tri P C (.region id l true) Q s:=by
 subst hn;exact ⟨λbs a w hR=>wp_region_any hm (h.run bs a _ hR.drew)⟩
end
noncomputable abbrev pg:=Tryz.prog
abbrev eA l:=D.sl 1 (List.map D.int l)
abbrev eB l:=D.sl 6 (List.map Table.enc l)
abbrev eC l:=D.sl 1 (List.map D.str l)
abbrev eD l:=D.sl 6 (List.map Constraint.enc l)
abbrev eE l:=D.sl 3 (List.map zul.enc l)
abbrev eF l:=D.sl 5 (List.map Action.enc l)
abbrev eG l:=D.sl 3 (List.map Hide.enc l)
abbrev eH l:=D.sl 1 (List.map D.bool l)
abbrev eI l:=D.sl 2 (List.map Range.enc l)
abbrev eJ l:=D.sl 2 (List.map Term.enc l)
abbrev eK l:=D.sl 2 (List.map Row.enc l)
abbrev eL l:=D.sl 2 (List.map Change.enc l)
abbrev eM l:=D.sl 3 (List.map zvd.enc l)
abbrev eN l:=D.sl 1 (List.map eA l)
abbrev eO l:=D.sl 3 (List.map zuc.enc l)
abbrev eP l:=D.sl 1 (List.map eK l)
abbrev eQ l:=D.sl 4 (List.map Token.enc l)
theorem D.Les.e {d:D} {a b:List D} (h:D.Les a b):D.Les (d::a) (d::b):=.cons (.refl _) h
theorem D.Les.o {k:Nat} {a b:List D} (h:D.Les a b):D.Les (.val (.slice none 0 0)::a) (.sl k []::b):=.cons (.nil _) h
theorem D.Les.e1 {d:D}:D.Les [d] [d]:=.e .nil
theorem D.Les.o1 {k:Nat}:D.Les [.val (.slice none 0 0)] [.sl k []]:=.o .nil
theorem zvY.v {H:List Blk} {ids:List Nat} {d:D} {a:List V} {b:List D} (h:zvY H ids a b):zvY H ids (.d d::a) (d::b):=.cons (.d _) h
theorem Frzs.v {H:List Blk} {d:D} {a:List V} {b:List D} (h:Frzs H a b):Frzs H (.d d::a) (d::b):=.cons (.d _) h
theorem Frzs.v1 {H:List Blk} {d:D}:Frzs H [.d d] [d]:=.v .nil
theorem zvY.v1 {H:List Blk} {ids:List Nat} {d:D}:zvY H ids [.d d] [d]:=.v .nil
abbrev Kd1 [ztS] [Drw] {α γ:Type} (i:FuncId) (f:Nat→α→Option γ) (a:α→D) (e:γ→D):Prop:=∀ n t0 r,f n t0=some r→Pure pg i [a t0] (e r)
abbrev Kd2 [ztS] [Drw] {α β γ:Type} (i:FuncId) (f:Nat→α→β→Option γ) (a:α→D) (b:β→D) (e:γ→D):Prop:=∀ n t0 t1 r,f n t0 t1=some r→Pure pg i [a t0,b t1] (e r)
abbrev Kd3 [ztS] [Drw] {α β δ γ:Type} (i:FuncId) (f:Nat→α→β→δ→Option γ) (a:α→D) (b:β→D) (c:δ→D) (e:γ→D):Prop:=∀ n t0 t1 t2 r,f n t0 t1 t2=some r→Pure pg i [a t0,b t1,c t2] (e r)
abbrev Kd4 [ztS] [Drw] {α β δ ε γ:Type} (i:FuncId) (f:Nat→α→β→δ→ε→Option γ) (a:α→D) (b:β→D) (c:δ→D) (d:ε→D) (e:γ→D):Prop:=∀ n t0 t1 t2 t3 r,f n t0 t1 t2 t3=some r→Pure pg i [a t0,b t1,c t2,d t3] (e r)
theorem ZL40:D.Le (.val (.agg #[(.int .i64 0),(.slice none 0 0),(.int .i64 0),(.int .i64 0),(.slice none 0 0)])) (Tree.enc ⟨0,[],0,0,[]⟩):=by
 rw [Tree.zvu];exact .ofAgg (.cons (.refl _) (.cons (.nil _) (.cons (.refl _) (.cons (.refl _) (.cons (.nil _) (.nil))))))
theorem IB317:zxa pg 317:=⟨_,Tryz.func317,by kernel_rfl,by kernel_rfl,by kernel_rfl,by kernel_rfl⟩
theorem U3:Tryz.prog.underlying 3=some (.int .i64):=by kernel_rfl
theorem U4:Tryz.prog.underlying 4=some (.bool):=by kernel_rfl
theorem U5:Tryz.prog.underlying 5=some (.int .u8):=by kernel_rfl
theorem U9:Tryz.prog.underlying 9=some (.string):=by kernel_rfl
theorem U21:Tryz.prog.underlying 21=some (.int .i32):=by kernel_rfl
theorem U22:Tryz.prog.underlying 22=some (.slice 3):=by kernel_rfl
theorem U23:Tryz.prog.underlying 23=some (.slice 107):=by kernel_rfl
theorem U24:Tryz.prog.underlying 24=some (.slice 9):=by kernel_rfl
theorem U25:Tryz.prog.underlying 25=some (.slice 57):=by kernel_rfl
theorem U26:Tryz.prog.underlying 26=some (.slice 111):=by kernel_rfl
theorem U37:Tryz.prog.underlying 37=some (.slice 149):=by kernel_rfl
theorem U38:Tryz.prog.underlying 38=some (.slice 40):=by kernel_rfl
theorem U51:Tryz.prog.underlying 51=some (.slice 22):=by kernel_rfl
theorem U74:Tryz.prog.underlying 74=some (.slice 55):=by kernel_rfl
theorem U80:Tryz.prog.underlying 80=some (.slice 83):=by kernel_rfl
theorem U95:Tryz.prog.underlying 95=some (.map 3 94):=by kernel_rfl
theorem U173:Tryz.prog.underlying 173=some (.slice 4):=by kernel_rfl
theorem U260:Tryz.prog.underlying 260=some (.int .u64):=by kernel_rfl
theorem U267:Tryz.prog.underlying 267=some (.slice 271):=by kernel_rfl
theorem U278:Tryz.prog.underlying 278=some (.map 9 4):=by kernel_rfl
theorem U283:Tryz.prog.underlying 283=some (.map 3 4):=by kernel_rfl
theorem U296:Tryz.prog.underlying 296=some (.int .u32):=by kernel_rfl
theorem U336:Tryz.prog.underlying 336=some (.array 256 5):=by kernel_rfl
theorem UE182:Tryz.prog.underlying 182=some (.struct #[]):=by kernel_rfl
theorem S3:(Tryz.prog.info? 3).map (·.size)=some 1:=by kernel_rfl
theorem S4:(Tryz.prog.info? 4).map (·.size)=some 1:=by kernel_rfl
theorem S5:(Tryz.prog.info? 5).map (·.size)=some 1:=by kernel_rfl
theorem S9:(Tryz.prog.info? 9).map (·.size)=some 1:=by kernel_rfl
theorem S22:(Tryz.prog.info? 22).map (·.size)=some 1:=by kernel_rfl
theorem S40:(Tryz.prog.info? 40).map (·.size)=some 5:=by kernel_rfl
theorem S55:(Tryz.prog.info? 55).map (·.size)=some 2:=by kernel_rfl
theorem S57:(Tryz.prog.info? 57).map (·.size)=some 6:=by kernel_rfl
theorem S83:(Tryz.prog.info? 83).map (·.size)=some 2:=by kernel_rfl
theorem S107:(Tryz.prog.info? 107).map (·.size)=some 6:=by kernel_rfl
theorem S111:(Tryz.prog.info? 111).map (·.size)=some 3:=by kernel_rfl
theorem S271:(Tryz.prog.info? 271).map (·.size)=some 4:=by kernel_rfl
theorem Y3:zZ pg 3=some (none):=by kernel_rfl
theorem Y4:zZ pg 4=some (none):=by kernel_rfl
theorem Y9:zZ pg 9=some (none):=by kernel_rfl
theorem Y22:zZ pg 22=some (none):=by kernel_rfl
theorem Y30:zZ pg 30=some (some 7):=by kernel_rfl
theorem Y37:zZ pg 37=some (none):=by kernel_rfl
theorem Y38:zZ pg 38=some (none):=by kernel_rfl
theorem Y40:zZ pg 40=some (some 5):=by kernel_rfl
theorem Y42:zZ pg 42=some (some 8):=by kernel_rfl
theorem Y55:zZ pg 55=some (some 2):=by kernel_rfl
theorem Y57:zZ pg 57=some (some 6):=by kernel_rfl
theorem Y77:zZ pg 77=some (some 3):=by kernel_rfl
theorem Y80:zZ pg 80=some (none):=by kernel_rfl
theorem Y83:zZ pg 83=some (some 2):=by kernel_rfl
theorem Y87:zZ pg 87=some (some 4):=by kernel_rfl
theorem Y91:zZ pg 91=some (some 9):=by kernel_rfl
theorem Y107:zZ pg 107=some (some 6):=by kernel_rfl
theorem Y124:zZ pg 124=some (some 3):=by kernel_rfl
theorem Y130:zZ pg 130=some (none):=by kernel_rfl
theorem Y134:zZ pg 134=some (some 7):=by kernel_rfl
theorem Y153:zZ pg 153=some (some 7):=by kernel_rfl
theorem Y223:zZ pg 223=some (some 2):=by kernel_rfl
theorem Z3:zcd pg 3 (none)=true:=by kernel_rfl
theorem Z40:zcd pg 40 (some 5)=true:=by kernel_rfl
theorem Z79:zcd pg 79 (some 5)=true:=by kernel_rfl
theorem Z107:zcd pg 107 (some 6)=true:=by kernel_rfl
theorem Z153:zcd pg 153 (some 7)=true:=by kernel_rfl
theorem Z255:zcd pg 255 (some 8)=true:=by kernel_rfl
theorem ZZ79:(zbC pg 79).isSome=true:=by kernel_rfl
theorem ZZ107:(zbC pg 107).isSome=true:=by kernel_rfl
theorem ZZ153:(zbC pg 153).isSome=true:=by kernel_rfl
theorem ZZ255:(zbC pg 255).isSome=true:=by kernel_rfl
theorem C3:cellsOf pg 3=some 1:=by kernel_rfl
theorem C4:cellsOf pg 4=some 1:=by kernel_rfl
theorem C9:cellsOf pg 9=some 1:=by kernel_rfl
theorem C22:cellsOf pg 22=some 1:=by kernel_rfl
theorem C37:cellsOf pg 37=some 1:=by kernel_rfl
theorem C38:cellsOf pg 38=some 1:=by kernel_rfl
theorem C40:cellsOf pg 40=some 5:=by kernel_rfl
theorem C53:cellsOf pg 53=some 1:=by kernel_rfl
theorem C55:cellsOf pg 55=some 2:=by kernel_rfl
theorem C74:cellsOf pg 74=some 1:=by kernel_rfl
theorem C80:cellsOf pg 80=some 1:=by kernel_rfl
theorem C83:cellsOf pg 83=some 2:=by kernel_rfl
theorem C84:cellsOf pg 84=some 1:=by kernel_rfl
theorem C87:cellsOf pg 87=some 4:=by kernel_rfl
theorem C124:cellsOf pg 124=some 3:=by kernel_rfl
theorem C130:cellsOf pg 130=some 1:=by kernel_rfl
theorem C173:cellsOf pg 173=some 1:=by kernel_rfl
theorem C216:cellsOf pg 216=some 1:=by kernel_rfl
theorem C283:cellsOf pg 283=some 1:=by kernel_rfl
theorem E22:zbq pg 22 3 1 8=true:=by kernel_rfl
theorem E23:zbq pg 23 107 6 72=true:=by kernel_rfl
theorem E24:zbq pg 24 9 1 16=true:=by kernel_rfl
theorem E25:zbq pg 25 57 6 64=true:=by kernel_rfl
theorem E26:zbq pg 26 111 3 48=true:=by kernel_rfl
theorem E27:zbq pg 27 79 5 104=true:=by kernel_rfl
theorem E37:zbq pg 37 149 3 24=true:=by kernel_rfl
theorem E38:zbq pg 38 40 5 72=true:=by kernel_rfl
theorem E51:zbq pg 51 22 1 24=true:=by kernel_rfl
theorem E53:zbq pg 53 109 2 16=true:=by kernel_rfl
theorem E73:zbq pg 73 113 2 16=true:=by kernel_rfl
theorem E74:zbq pg 74 55 2 32=true:=by kernel_rfl
theorem E80:zbq pg 80 83 2 16=true:=by kernel_rfl
theorem E84:zbq pg 84 124 3 40=true:=by kernel_rfl
theorem E85:zbq pg 85 74 1 24=true:=by kernel_rfl
theorem E173:zbq pg 173 4 1 1=true:=by kernel_rfl
theorem E216:zbq pg 216 221 2 32=true:=by kernel_rfl
theorem E267:zbq pg 267 271 4 32=true:=by kernel_rfl
theorem F34_2:zu1 pg 34 2=some (2,some 2):=by kernel_rfl
theorem F40_1:zu1 pg 40 1=some (1,none):=by kernel_rfl
theorem zwF:zu1 pg 40 4=some (4,none):=by kernel_rfl
theorem F42_2:zu1 pg 42 2=some (2,some 5):=by kernel_rfl
theorem zwQ:zu1 pg 57 2=some (2,some 2):=by kernel_rfl
theorem F79_2:zu1 pg 79 2=some (2,some 3):=by kernel_rfl
theorem F83_0:zu1 pg 83 0=some (0,none):=by kernel_rfl
theorem zxV:zu1 pg 83 1=some (1,none):=by kernel_rfl
theorem F87_0:zu1 pg 87 0=some (0,none):=by kernel_rfl
theorem F91_3:zu1 pg 91 3=some (3,some 5):=by kernel_rfl
theorem ztc:zu1 pg 107 3=some (3,some 2):=by kernel_rfl
theorem zps:zu1 pg 132 0=some (0,some 4):=by kernel_rfl
theorem zsq:zu1 pg 134 2=some (2,some 5):=by kernel_rfl
theorem zqK:zu1 pg 153 0=some (0,some 4):=by kernel_rfl
theorem znU:zu1 pg 153 2=some (5,none):=by kernel_rfl
theorem ztd:zu1 pg 218 0=some (0,some 7):=by kernel_rfl
theorem zte:zu1 pg 223 0=some (0,none):=by kernel_rfl
theorem ztf:zu1 pg 255 0=some (0,some 7):=by kernel_rfl
theorem zwR (x:Question):Fld pg 34 2 x.enc (Target.enc x.target):=Fld.of F34_2 rfl rfl
theorem G40_1 (x:Tree):Fld pg 40 1 x.enc (.sl 3 (List.map Step.enc x.steps)):=Fld.of F40_1 rfl rfl
theorem zvT (x:Tree):Fld pg 40 4 x.enc (.sl 5 (List.map Tree.enc x.kids)):=by rw [← Tree.zuo];exact Fld.of zwF rfl rfl
theorem G42_2 (x:zt6):Fld pg 42 2 x.enc (Tree.enc x.tree):=by rw [Tree.zvu];exact Fld.of F42_2 rfl rfl
theorem G57_2 (x:Constraint):Fld pg 57 2 x.enc (Row.enc x.row):=Fld.of zwQ rfl rfl
theorem zxp (x:Action):Fld pg 79 2 x.enc (zur.enc x.effect):=Fld.of F79_2 rfl rfl
theorem G87_0 (x:System):Fld pg 87 0 x.enc (.sl 2 (List.map Range.enc x.box)):=Fld.of F87_0 rfl rfl
theorem G91_3 (x:Answer):Fld pg 91 3 x.enc (Tree.enc x.tree):=by rw [Tree.zvu];exact Fld.of F91_3 rfl rfl
theorem zeL (x:Table):Fld pg 107 3 x.enc (Range.enc x.range):=Fld.of ztc rfl rfl
theorem zj7 (x:Found):Fld pg 134 2 x.enc (Tree.enc x.tree):=by rw [Tree.zvu];exact Fld.of zsq rfl rfl
theorem zsr (x:zuh):Fld pg 153 0 x.enc (System.enc x.s):=Fld.of zqK rfl rfl
theorem zj8 (x:zuh):Fld pg 153 2 x.enc (.sl 2 (List.map Range.enc x.box)):=Fld.of znU rfl rfl
theorem zqL (x:zu7):Fld pg 218 0 x.enc (Model.enc x.m):=Fld.of ztd rfl rfl
theorem zss (x:zuQ):Fld pg 223 0 x.enc (.int x.size):=Fld.of zte rfl rfl
theorem zce (x:zuD):Fld pg 255 0 x.enc (Model.enc x.model):=Fld.of ztf rfl rfl
theorem Zc30:zux pg 30=some [.val (.slice none 0 0),.val (.slice none 0 0),.val (.slice none 0 0),.val (.slice none 0 0),.val (.slice none 0 0),.val (.slice none 0 0),.val (.slice none 0 0)]:=by kernel_rfl
theorem Zc32:zux pg 32=some [.bool false,.val (.int .i64 0)]:=by kernel_rfl
theorem Zc34:zux pg 34=some [.val (.int .i64 0),.val (.int .i64 0),.bool false,.val (.int .i64 0)]:=by kernel_rfl
theorem Zc40:zux pg 40=some [.val (.int .i64 0),.val (.slice none 0 0),.val (.int .i64 0),.val (.int .i64 0),.val (.slice none 0 0)]:=by kernel_rfl
theorem Zc42:zux pg 42=some [.val (.int .i64 0),.val (.slice none 0 0),.val (.int .i64 0),.val (.slice none 0 0),.val (.int .i64 0),.val (.int .i64 0),.val (.slice none 0 0),.val (.int .i64 0)]:=by kernel_rfl
theorem Zc55:zux pg 55=some [.val (.slice none 0 0),.val (.int .i64 0)]:=by kernel_rfl
theorem Zc57:zux pg 57=some [.val (.int .i64 0),.val (.int .i64 0),.val (.slice none 0 0),.val (.int .i64 0),.val (.int .i64 0),.val (.int .i64 0)]:=by kernel_rfl
theorem Zc77:zux pg 77=some [.val (.slice none 0 0),.val (.slice none 0 0),.val (.slice none 0 0)]:=by kernel_rfl
theorem Zc79:zux pg 79=some [.val (.int .i64 0),.val (.slice none 0 0),.val (.slice none 0 0),.val (.slice none 0 0),.val (.slice none 0 0)]:=by kernel_rfl
theorem Zc83:zux pg 83=some [.val (.int .i64 0),.val (.int .i64 0)]:=by kernel_rfl
theorem Zc87:zux pg 87=some [.val (.slice none 0 0),.val (.slice none 0 0),.val (.slice none 0 0),.val (.slice none 0 0)]:=by kernel_rfl
theorem Zc91:zux pg 91=some [.val (.int .i64 0),.val (.int .i64 0),.val (.slice none 0 0),.val (.int .i64 0),.val (.slice none 0 0),.val (.int .i64 0),.val (.int .i64 0),.val (.slice none 0 0),.val (.int .i64 0)]:=by kernel_rfl
theorem Zc107:zux pg 107=some [.val (.string .empty),.val (.int .i64 0),.val (.slice none 0 0),.val (.int .i64 0),.val (.int .i64 0),.val (.int .i64 0)]:=by kernel_rfl
theorem zxZ:zux pg 109=some [.val (.int .i64 0),.val (.int .i64 0)]:=by kernel_rfl
theorem Zc111:zux pg 111=some [.val (.string .empty),.bool false,.val (.slice none 0 0)]:=by kernel_rfl
theorem Zc113:zux pg 113=some [.val (.int .i64 0),.val (.int .i64 0)]:=by kernel_rfl
theorem zx0:zux pg 124=some [.val (.int .i64 0),.val (.int .i64 0),.val (.slice none 0 0)]:=by kernel_rfl
theorem Zc132:zux pg 132=some [.val (.slice none 0 0),.val (.slice none 0 0),.val (.slice none 0 0),.val (.slice none 0 0),.val (.slice none 0 0),.val (.int .i64 0),.val (.int .i64 0)]:=by kernel_rfl
theorem zxd:zux pg 134=some [.val (.slice none 0 0),.val (.int .i64 0),.val (.int .i64 0),.val (.slice none 0 0),.val (.int .i64 0),.val (.int .i64 0),.val (.slice none 0 0)]:=by kernel_rfl
theorem Zc149:zux pg 149=some [.val (.int .i64 0),.val (.int .i64 0),.val (.int .i64 0)]:=by kernel_rfl
theorem Zc153:zux pg 153=some [.val (.slice none 0 0),.val (.slice none 0 0),.val (.slice none 0 0),.val (.slice none 0 0),.val (.slice none 0 0),.val (.slice none 0 0),.bool false]:=by kernel_rfl
theorem Zc182:zux pg 182=some []:=by kernel_rfl
theorem Zc218:zux pg 218=some [.val (.slice none 0 0),.val (.slice none 0 0),.val (.slice none 0 0),.val (.slice none 0 0),.val (.slice none 0 0),.val (.slice none 0 0),.val (.slice none 0 0),.val (.slice none 0 0),.val (.slice none 0 0)]:=by kernel_rfl
theorem Zc221:zux pg 221=some [.val (.int .i64 0),.val (.slice none 0 0)]:=by kernel_rfl
theorem Zc223:zux pg 223=some [.val (.int .i64 0),.val (.slice none 0 0)]:=by kernel_rfl
theorem Zc255:zux pg 255=some [.val (.slice none 0 0),.val (.slice none 0 0),.val (.slice none 0 0),.val (.slice none 0 0),.val (.slice none 0 0),.val (.slice none 0 0),.val (.slice none 0 0),.val (.slice none 0 0)]:=by kernel_rfl
theorem Zc271:zux pg 271=some [.val (.int .i64 0),.val (.int .i64 0),.val (.int .i64 0),.val (.int .i64 0)]:=by kernel_rfl
theorem Zv3:zbC pg 3=some ((.int .i64 0)):=by kernel_rfl
theorem Zv4:zbC pg 4=some (.bool false):=by kernel_rfl
theorem Zv9:zbC pg 9=some ((.string .empty)):=by kernel_rfl
theorem Zv94:zbC pg 94=some (.nilFunc):=by kernel_rfl
theorem Zv130:zbC pg 130=some ((.pointer none)):=by kernel_rfl
theorem Zv173:zbC pg 173=some ((.slice none 0 0)):=by kernel_rfl
theorem Zv283:zbC pg 283=some ((.map none)):=by kernel_rfl
theorem Pl40:zcs pg 40=some [(0,1),(1,1),(2,1),(3,1),(4,1)]:=by kernel_rfl
theorem Pl42:zcs pg 42=some [(0,1),(1,1),(2,5),(7,1)]:=by kernel_rfl
theorem Pl55:zcs pg 55=some [(0,1),(1,1)]:=by kernel_rfl
theorem Pl87:zcs pg 87=some [(0,1),(1,1),(2,1),(3,1)]:=by kernel_rfl
theorem Pl91:zcs pg 91=some [(0,1),(1,1),(2,1),(3,5),(8,1)]:=by kernel_rfl
theorem Pl124:zcs pg 124=some [(0,1),(1,1),(2,1)]:=by kernel_rfl
theorem zxK:zcs pg 134=some [(0,1),(1,1),(2,5)]:=by kernel_rfl
theorem Pl182:zcs pg 182=some []:=by kernel_rfl
theorem Pl218:zcs pg 218=some [(0,7),(7,1),(8,1)]:=by kernel_rfl
theorem K28:ztT pg 28=true:=by kernel_rfl
theorem K29:ztT pg 29=true:=by kernel_rfl
theorem K30:ztT pg 30=true:=by kernel_rfl
theorem K37:ztT pg 37=true:=by kernel_rfl
theorem K56:ztT pg 56=true:=by kernel_rfl
theorem K60:ztT pg 60=true:=by kernel_rfl
theorem K61:ztT pg 61=true:=by kernel_rfl
theorem K63:ztT pg 63=true:=by kernel_rfl
theorem K65:ztT pg 65=true:=by kernel_rfl
theorem K67:ztT pg 67=true:=by kernel_rfl
theorem K116:ztT pg 116=true:=by kernel_rfl
theorem K117:ztT pg 117=true:=by kernel_rfl
theorem K124:ztT pg 124=true:=by kernel_rfl
theorem K131:ztT pg 131=true:=by kernel_rfl
theorem K150:ztT pg 150=true:=by kernel_rfl
theorem K171:ztT pg 171=true:=by kernel_rfl
theorem K174:ztT pg 174=true:=by kernel_rfl
theorem K175:ztT pg 175=true:=by kernel_rfl
theorem K192:ztT pg 192=true:=by kernel_rfl
theorem K227:ztT pg 227=true:=by kernel_rfl
theorem K228:ztT pg 228=true:=by kernel_rfl
theorem K242:ztT pg 242=true:=by kernel_rfl
theorem K246:ztT pg 246=true:=by kernel_rfl
theorem K266:ztT pg 266=true:=by kernel_rfl
theorem K271:ztT pg 271=true:=by kernel_rfl
theorem K273:ztT pg 273=true:=by kernel_rfl
theorem K275:ztT pg 275=true:=by kernel_rfl
theorem K278:ztT pg 278=true:=by kernel_rfl
theorem K303:ztT pg 303=true:=by kernel_rfl
theorem K304:ztT pg 304=true:=by kernel_rfl
theorem K309:ztT pg 309=true:=by kernel_rfl
theorem K313:ztT pg 313=true:=by kernel_rfl
theorem Hm:Tryz.prog.follows .mixedOrders=true:=by kernel_rfl
theorem SE83:zvC pg 83 [.int .i64,.int .i64]:=⟨by kernel_rfl,by kernel_rfl,by kernel_rfl⟩
theorem SE109:zvC pg 109 [.int .i64,.int .i64]:=⟨by kernel_rfl,by kernel_rfl,by kernel_rfl⟩
theorem SE149:zvC pg 149 [.int .i64,.int .i64,.int .i64]:=⟨by kernel_rfl,by kernel_rfl,by kernel_rfl⟩
def Range.vals (x:Range):List Value:=[.int .i64 x.lo,.int .i64 x.hi]
theorem SQ83 (x y:Range):eqVs (Range.vals x) (Range.vals y)=decide (x=y):=by
 rw [Bool.eq_iff_iff,decide_eq_true_iff]
 rcases x with ⟨_,_⟩;rcases y with ⟨_,_⟩
 simp [Range.vals,eqVs,eqV,zjZ,and_assoc]
def Term.vals (x:Term):List Value:=[.int .i64 x.cell,.int .i64 x.ztV]
theorem SQ109 (x y:Term):eqVs (Term.vals x) (Term.vals y)=decide (x=y):=by
 rw [Bool.eq_iff_iff,decide_eq_true_iff]
 rcases x with ⟨_,_⟩;rcases y with ⟨_,_⟩
 simp [Term.vals,eqVs,eqV,zjZ,and_assoc]
def Step.vals (x:Step):List Value:=[.int .i64 x.kind,.int .i64 x.index,.int .i64 x.cell]
theorem SQ149 (x y:Step):eqVs (Step.vals x) (Step.vals y)=decide (x=y):=by
 rw [Bool.eq_iff_iff,decide_eq_true_iff]
 rcases x with ⟨_,_,_⟩;rcases y with ⟨_,_,_⟩
 simp [Step.vals,eqVs,eqV,zjZ,and_assoc]
theorem KT3:KeyT pg 3 (λn:Int=>Value.int .i64 n):=KeyT.int U3
theorem KT9:KeyT pg 9 (λl:List UInt8=>Value.string ⟨l.toArray⟩):=KeyT.str U9
theorem zsu {P : Program} {f : FuncId} {B : Func} (h : (P.funcs[f]?).isSome = true) (hn : (((P.funcs[f]?).get h).name == "runtime.NumGoroutine") = false) (he : P.funcs[f]? = some { B with name := ((P.funcs[f]?).get h).name }) : Go.Proofs.Bears P f B := ⟨_, hn, he⟩
def Tryz.zxu:Go.Shelf.Ren:=⟨fun | 4=>178 | n=>n,fun | 22=>74 | 25=>55 | 3=>3 | 4=>4 | 9=>9 | 20=>20 | 0=>0 | n=>n,fun | n=>n⟩
theorem Tryz.grow178:Go.Proofs.Lays8.n4 pg Tryz.zxu:=by
 constructor <;> first | kernel_rfl | (intro w;kernel_rfl) | exact zsu (by kernel_rfl) (by kernel_rfl) (by kernel_rfl)
section
variable [ztS] [Drw]
theorem TriI.to {P C ops fuel listed Q s} (listed') (e:listed=listed') (h:TriI P C ops fuel listed' Q s):TriI P C ops fuel listed Q s:=by subst e;exact h
theorem TriI.via {P C ops fuel listed Q s} (f l' s') (h:TriI P C ops f l' Q s') (k:TriI P C ops f l' Q s'→TriI P C ops fuel listed Q s):TriI P C ops fuel listed Q s:=k h
theorem TriI.zvU {P C ops fuel listed Q T K H} (ks) (hK:Looks T ks K) (h:TriI P C ops fuel listed Q ⟨K,H⟩):TriI P C ops fuel listed Q ⟨T,H⟩:=
 ⟨λbs a w hR=>h.run bs a w (hR.weaken hK.sub.look)⟩
theorem TriI.ge {P C ops fuel listed Q s t} (hl:s.ge t) (hgn:Nat.ble C.gn t.H.length=true) (h:TriI P C ops fuel listed Q t):TriI P C ops fuel listed Q s:=
 ⟨λ_ a w hR=>let ⟨bs',hR'⟩:=hR.ge hl hgn;h.run bs' a w hR'⟩
theorem TriL.ge {P C ops rest Q s t} (hl:s.ge t) (hgn:Nat.ble C.gn t.H.length=true) (h:TriL P C ops rest Q t):TriL P C ops rest Q s:=
 ⟨λ_ a w hR=>let ⟨bs',hR'⟩:=hR.ge hl hgn;h.run bs' a w hR'⟩
theorem TriI.cut {P C ops fuel listed Q T H'} (H) (hl:∃ X,H'=H++X) (h1:(H.all (Blk.under H.length))=true) (h2:(T.all λp=>p.2.under H.length)=true) (hT:Sub T T) (hgn:Nat.ble C.gn H.length=true)
  (h:TriI P C ops fuel listed Q ⟨T,H⟩):TriI P C ops fuel listed Q ⟨T,H'⟩:=
 .ge (t:=⟨T,H⟩) (let ⟨X,hX⟩:=hl;⟨X,hX,h1,h2,hT⟩) hgn h
theorem OneI.ofG {P C ops o s s'} (hd:zdY o=true) (hw:zv6 C ops o s true) (h:TriL P C ops [{ o with guard:=none }] (zwc s') s):OneI P C ops o s s':=by
 refine ⟨λbs a w hR Q i K hi hK=>?_⟩;have h1:=h.run bs a w hR;have hw:=hw.run bs a w hR;unfold wpOpIn;simp only [hi,hw,if_true];unfold wpList at h1;have h0:Region.wanted { o with guard:=none } (yielded ops a.tmps)=true:=rfl;rw [if_pos h0] at h1;rcases h1 with h1 | ⟨_,a1,w1,h1⟩
 ·have h2:o.wp P a w (QR C (zwc s') .normal) (QR C (zwc s')):=h1;exact Oper.wpIn_wide (.inl rfl) (zg2 hd) (Oper.zw9 hK h2)
 ·rcases h1 with ⟨bs',s1,⟨h,_⟩,hR⟩ | ⟨h,_⟩ <;> cases h
theorem OneI.no {P C ops o s} (hd:zup o.dst C.n=true) (hw:zv6 C ops o s false):OneI P C ops o s (s.put o.dst .junk):=by
 refine ⟨λbs a w hR Q i K hi hK=>?_⟩;have hw:=hw.run bs a w hR;unfold wpOpIn;simp only [hi,hw];exact ⟨λ_ _=>trivial,hK _ _ ⟨bs,hR.put (Fr.refl _ _) o.dst hd (v:=.junk) (by simp only [V.rep])⟩⟩
theorem zqp {P f fn} {α:Type} {t el} {k bytes:Nat} {enc:α→D} {xs zs:List α} (hf:P.funcs[f]? = some fn) (hbody:fn.body=some (ziA t)) (hN:fn.ntmps=8) (hrs:fn.results = #[.tmp 2])
  (ht:zbq P t el k bytes=true) (hb:Nat.blt 0 bytes=true) (hones:∀ z,(enc z).ones=true) (hk:∀ x,(enc x).kOK k=true) (hv:Go.Proofs.YtipkniadbkndfaaGreatDoor.app bytes [] xs=some zs):Pure P f [.sl k (xs.map enc)] (.sl k (zs.map enc)):=by
 have hz:zs=xs:=by have:=(appS hv).1;simpa using this
 have htu:=(zbA ht).1;refine Pure.ot hf hbody hN rfl λA w=>?_
 rw [hrs];refine .seq (.region (.op rfl rfl (.assign rfl rfl) (.nil ?_)));refine .seq (.seq (.region (.op rfl rfl (.move rfl rfl) (.eqNil rfl rfl rfl htu rfl λb hxs=>.nil ?_))));refine .cond (t:=b) rfl (λhbt=>?_) (λ_=>.skip ?_)
 ·have hxs:=hxs hbt;have hxs:xs=[]:=by simpa using hxs
  subst hxs;subst hz;refine .seq (.region (.op rfl rfl (.assign rfl rfl) (.nil ?_)));refine .zve 2 k el rfl (.ret ?_);exact zbU rfl (.vec rfl rfl)
 ·refine .seq (.region (.zv7 (α:=α) (enc:=enc) [] rfl rfl rfl rfl rfl ht rfl hk (by simp [Nat.ble_eq]) ?_));refine .op rfl rfl (.move rfl rfl) ?_;refine .app rfl rfl rfl rfl rfl rfl rfl rfl ht hb hones hv ?_;refine .op rfl rfl (.assign rfl rfl) (.nil ?_);refine .ret ?_;exact zbU rfl (.vec rfl (by simp))
theorem OpV.zyh {P o e H g x d} (ho:o.op = .makeFunc (.func g) #[x] #[]) (hx:e x=some (.d d)):OpV P o e H (.d (.fn (.func g) [d] [])):=
 .of_same λA0 bs w f _ hf=>by
  have h1:=hf x (by simp [ho,Op.operands]) _ hx;refine ⟨.func (.func g) #[f x] #[],by simp [execOp,ho,Instr.makeFunc],?_⟩;simp only [V.rep,D.rep,D.reps] at h1 ⊢;exact ⟨#[f x],#[],rfl,⟨f x,[],rfl,h1,rfl⟩,rfl⟩
end
class Tab (P:Program) where
 F:Nat→Nat→Option Nat
 S:Nat→Option (Option Nat)
 fl:∀ t i o,F t i=some o→zu1 P t i=some (o,none)
 sh:∀ t k,S t=some k→zZ P t=some k
def nthO {α:Type}:List (Option α)→Nat→Option α
 | x::_,0=>x
 | _::l,n+1=>nthO l n
 | [],_=>none
def assN {α:Type}:List (Nat×α)→Nat→Option α
 | (k,x)::l,t=>match Nat.beq k t with
  | true=>some x
  | false=>assN l t
 | [],_=>none
def tbF (l:List (Nat×List (Option Nat))) (t i:Nat):Option Nat:=match assN l t with
 | some r=>nthO r i
 | none=>none
theorem zfZ {α:Type}:∀ {l:List (Nat×α)} {t:Nat} {x:α},assN l t=some x→(t,x)∈l
 | [],_,_,h=>by simp [assN] at h
 | (k,y)::l,t,x,h=>by
  rw [assN] at h;cases hk:Nat.beq k t with
  | true=>rw [hk] at h;cases h;rw [Nat.eq_of_beq_eq_true hk];simp
  | false=>rw [hk] at h;exact yX _ (zfZ h)
def rowB (P:Program) (t:Nat):List (Option Nat)→Nat→Bool
 | [],_=>true
 | none::l,i=>rowB P t l (i+1)
 | some o::l,i=>decide (zu1 P t i=some (o,none))&&rowB P t l (i+1)
theorem zp5 {P t o}:∀ {l:List (Option Nat)} {j i:Nat},rowB P t l j=true→nthO l i=some o→zu1 P t (j+i)=some (o,none)
 | [],_,_,_,h=>by simp [nthO] at h
 | x::l,j,0,hb,h=>by
  simp only [nthO] at h;subst h;simp only [rowB,yd,yg] at hb;exact hb.1
 | x::l,j,i+1,hb,h=>by
  simp only [nthO] at h;have hb':rowB P t l (j+1)=true:=by
   cases x with
   | none=>exact hb
   | some o=>simp only [rowB,yd] at hb;exact hb.2
  have:=zp5 hb' h
  rwa [Nat.add_assoc,Nat.add_comm 1 i] at this
abbrev Tab.mk' {P:Program} {F:Nat→Nat→Option Nat} {S:Nat→Option (Option Nat)} (f:List (Nat×List (Option Nat))) (s:List (Nat×Option Nat)) (hf:(f.all λp=>rowB P p.1 p.2 0)=true) (hs:(s.all λp=>decide (zZ P p.1=some p.2))=true) (eF:F=tbF f) (eS:S=assN s):Tab P where
 F:=F
 S:=S
 fl:=λt i o h=>by
  rw [eF] at h;unfold tbF at h;cases ha:assN f t with
  | none=>rw [ha] at h;cases h
  | some r=>
   rw [ha] at h;have:=zp5 (yq.1 hf _ (zfZ ha)) h
   rwa [uk] at this
 sh:=λt k h=>by
  rw [eS] at h;exact of_decide_eq_true (yq.1 hs _ (zfZ h))
def slB (P:Program) (t k:Nat):Bool:=match P.underlying t with
 | some (.slice el)=>decide ((P.info? el).map (·.size)=some k)
 | _=>false
theorem ztB {P t k} (h:slB P t k=true):∃ el,P.underlying t=some (.slice el)∧(P.info? el).map (·.size)=some k:=by
 unfold slB at h;split at h
 ·exact ⟨_,‹_›,of_decide_eq_true h⟩
 ·cases h
def ceB (P:Program) (t n:Nat):Bool:=match cellsOf P t with
 | some m=>Nat.beq m n
 | none=>false
theorem ztj {P t n} (h:ceB P t n=true):cellsOf P t=some n:=by
 unfold ceB at h;split at h
 ·rw [‹cellsOf P t=_›,Nat.eq_of_beq_eq_true h]
 ·cases h
def plB (P:Program) (t:Nat) (l:List (Nat×Nat)):Bool:=match zcs P t with
 | some m=>decide (m=l)
 | none=>false
theorem ztA {P t l} (h:plB P t l=true):zcs P t=some l:=by
 unfold plB at h;split at h
 ·rw [‹zcs P t=_›,of_decide_eq_true h]
 ·cases h
def memN:List Nat→Nat→Bool
 | k::l,f=>match Nat.beq k f with
  | true=>true
  | false=>memN l f
 | [],_=>false
theorem zpZ:∀ {l:List Nat} {f:Nat},memN l f=true→f∈l
 | [],_,h=>by simp [memN] at h
 | k::l,f,h=>by
  rw [memN] at h;cases hk:Nat.beq k f with
  | true=>rw [Nat.eq_of_beq_eq_true hk];simp
  | false=>rw [hk] at h;exact yX _ (zpZ h)
theorem slAll {P l} (hl:(l.all λp=>slB P p.1 p.2)=true) {t k} (h:assN l t=some k):∃ el,P.underlying t=some (.slice el)∧(P.info? el).map (·.size)=some k:=ztB (yq.1 hl _ (zfZ h))
theorem clAll {P l} (hl:l.all (ztT P)=true) {f} (h:memN l f=true):ztT P f=true:=yq.1 hl f (zpZ h)
def nthD {α:Type}:List α→Nat→Option α
 | x::_,0=>some x
 | _::l,n+1=>nthD l n
 | [],_=>none
theorem zgc {α:Type}:∀ {l:List α} {i:Nat} {y:α},nthD l i=some y→l[i]? = some y
 | [],_,_,h=>by simp [nthD] at h
 | x::l,0,y,h=>by simpa [nthD] using h
 | x::l,i+1,y,h=>by rw [uH];exact zgc h
def zye:List D→Nat→Bool
 | [],0=>true
 | _::l,n+1=>zye l n
 | _,_=>false
theorem zoh:∀ {l:List D} {n:Nat},zye l n=true→l.length=n
 | [],0,_=>rfl
 | _::l,n+1,h=>by rw [yR,zoh (l:=l) h]
 | [],_+1,h=>by simp [zye] at h
 | _::_,0,h=>by simp [zye] at h
def zjW (d:D) (k:Option Nat):Bool:=match d with
 | .agg cs=>match k with
  | some n=>zye cs n
  | none=>false
 | .val v=>match v with
  | .agg _=>false
  | _=>k.isNone
 | _=>k.isNone
theorem zjX {d k} (h:zjW d k=true):d.shape=k:=by
 cases d with
 | agg cs=>
  cases k with
  | none=>cases h
  | some n=>exact congrArg some (zoh h)
 | val v=>cases v <;> cases k <;> first | rfl | cases h
 | _=>cases k <;> first | rfl | cases h
def vBin (op:BinOp) (x y:Option V):Option V:=match x,y with
 | some (.d (.val (.int k a))),some (.d (.val (.int k' b)))=>match decide (k=k') with
  | true=>match op with
   | .lss=>some (.d (.bool (decide (a<b))))
   | .leq=>some (.d (.bool (decide (a≤b))))
   | .gtr=>some (.d (.bool (decide (b<a))))
   | .geq=>some (.d (.bool (decide (b≤a))))
   | .eql=>some (.d (.bool (a==b)))
   | .neq=>some (.d (.bool (a != b)))
   | .add=>match k with
    | .i64=>some (.d (.int (ztJ a b)))
    | _=>none
   | .sub=>match k with
    | .i64=>some (.d (.int (zt2 a b)))
    | _=>none
   | .mul=>match k with
    | .i64=>some (.d (.int (ztZ a b)))
    | _=>none
   | _=>none
  | false=>none
 | _,_=>none
def zxf (H:List Blk) (i:Nat):Option (List V):=match nthD H i with
 | some (.box _ cs)=>some cs
 | _=>none
theorem zm9 {H i cs} (h:zxf H i=some cs):∃ t,H[i]? = some (.box t cs):=by
 unfold zxf at h;split at h
 ·cases h;exact ⟨_,zgc ‹_›⟩
 ·cases h
def vOp (F:Nat→Nat→Option Nat) (S:Nat→Option (Option Nat)) (H:List Blk) (e:Operand→Option V):Op→Option V
 | .move x=>e x
 | .assign x=>e x
 | .box _ x=>match e x with
  | some (.d d)=>some (.d (.ref d))
  | _=>none
 | .unOp .not _ x=>match e x with
  | some (.d (.val (.bool b)))=>some (.d (.bool (!b)))
  | _=>none
 | .binOp op _ x y _=>vBin op (e x) (e y)
 | .fieldAddr t x i=>match e x with
  | some (.d (.ref (.agg cs)))=>match F t i with
   | some o=>match nthD cs o with
    | some y=>match zjW y none with
     | true=>some (.d (.ref y))
     | false=>none
    | none=>none
   | none=>none
  | some (.loc b off)=>match F t i with
   | some o=>match zxf H b with
    | some _=>some (.loc b (off+o))
    | none=>none
   | none=>none
  | _=>none
 | .load t x=>match e x with
  | some (.d (.ref d))=>match S t with
   | some k=>match zjW d k with
    | true=>some (.d d)
    | false=>none
   | none=>none
  | some (.loc b off)=>match S t with
   | some none=>match zxf H b with
    | some cs=>nthD cs off
    | none=>none
   | _=>none
  | _=>none
 | .extract x i=>match e x with
  | some (.d (.tup ds))=>match nthD ds i with
   | some d=>some (.d d)
   | none=>none
  | some (.tup cs)=>nthD cs i
  | _=>none
 | .nilCheck x=>match e x with
  | some (.d (.ref d))=>some (.d (.ref d))
  | some (.loc b off)=>match zxf H b with
   | some _=>some (.loc b off)
   | none=>none
  | _=>none
 | _=>none
section
variable [ztS] [Drw] {P:Program} [Tab P] {o:Oper} {e:Operand→Option V} {H:List Blk} {v:V}
theorem zta {op:BinOp} {t u x y} (ho:o.op = .binOp op t x y u) (h:vBin op (e x) (e y)=some v):OpV P o e H v:=by
 unfold vBin at h;split at h
 ·rename_i k a k' b hx hy;split at h
  ·rename_i hk;have hk:=of_decide_eq_true hk;subst hk;split at h
   ·cases h;exact .lss ho hx hy
   ·cases h;exact .leq ho hx hy
   ·cases h;exact .gtr ho hx hy
   ·cases h;exact .geq ho hx hy
   ·cases h;exact .eql ho hx hy
   ·cases h;exact .neq ho hx hy
   ·split at h
    ·cases h;exact .add6 ho hx hy
    ·cases h
   ·split at h
    ·cases h;exact .sub6 ho hx hy
    ·cases h
   ·split at h
    ·cases h;exact .mul6 ho hx hy
    ·cases h
   ·cases h
  ·cases h
 ·cases h
theorem zrS (h:vOp (Tab.F P) (Tab.S P) H e o.op=some v):OpV P o e H v:=by
 unfold vOp at h;split at h
 ·exact .move ‹_› h
 ·exact .assign ‹_› h
 ·split at h
  ·cases h;exact .box ‹_› ‹_›
  ·cases h
 ·split at h
  ·cases h;exact .not ‹_› ‹_›
  ·cases h
 ·exact zta ‹_› h
 ·split at h
  ·split at h
   ·split at h
    ·split at h
     ·cases h;exact .fieldAddr ‹o.op=_› ‹e _=_› (Fld.of (Tab.fl _ _ _ ‹Tab.F P _ _=_›) (zjX ‹zjW _ _=_›) (zgc ‹nthD _ _=_›))
     ·cases h
    ·cases h
   ·cases h
  ·split at h
   ·split at h
    ·cases h;obtain ⟨_,hb⟩:=zm9 ‹zxf _ _=_›;exact .ztW ‹o.op=_› ‹e _=_› hb (Tab.fl _ _ _ ‹Tab.F P _ _=_›)
    ·cases h
   ·cases h
  ·cases h
 ·split at h
  ·split at h
   ·split at h
    ·cases h;exact .load ‹o.op=_› ‹e _=_› (Tab.sh _ _ ‹Tab.S P _=_›) (zjX ‹zjW _ _=_›)
    ·cases h
   ·cases h
  ·split at h
   ·split at h
    ·obtain ⟨_,hb⟩:=zm9 ‹zxf _ _=_›;exact .zuf ‹o.op=_› ‹e _=_› hb (Tab.sh _ _ ‹Tab.S P _=_›) (zgc h)
    ·cases h
   ·cases h
  ·cases h
 ·split at h
  ·split at h
   ·cases h;exact .extract ‹o.op=_› ‹e _=_› (zgc ‹nthD _ _=_›)
   ·cases h
  ·exact .extractV ‹o.op=_› ‹e _=_› (zgc h)
  ·cases h
 ·split at h
  ·cases h;exact .zxm ‹o.op=_› ‹e _=_›
  ·split at h
   ·cases h;obtain ⟨_,hb⟩:=zm9 ‹zxf _ _=_›;exact .zxl ‹o.op=_› ‹e _=_› hb
   ·cases h
  ·cases h
 ·cases h
theorem zqg (h:vOp (Tab.F P) (Tab.S P) H e o.op=some v):zal o=false:=by
 unfold zal;cases ho:o.op <;> first | rfl | (rw [ho] at h;simp [vOp] at h)
end
def runA (F:Nat→Nat→Option Nat) (S:Nat→Option (Option Nat)) (N:Nat) (H:List Blk):Nat→List Oper→List (Nat×V)→Option (List Oper×List (Nat×V))
 | 0,l,T=>some (l,T)
 | n+1,o::l,T=>match o.guard,o.dst with
  | none,some d=>match Nat.blt d N with
   | true=>match vOp F S H (ev T) o.op with
    | some v=>runA F S N H n l ((d,v)::T)
    | none=>none
   | false=>none
  | _,_=>none
 | _+1,[],_=>none
def sameB:Bool→Bool→Bool
 | true,true=>true
 | false,false=>true
 | _,_=>false
def runQ (F:Nat→Nat→Option Nat) (S:Nat→Option (Option Nat)) (N:Nat) (H:List Blk) (ops:Array Oper):Nat→List Oper→List (Nat×V)→Option (List Oper×List (Nat×V))
 | 0,l,T=>some (l,T)
 | n+1,o::l,T=>match o.dst with
  | some d=>match Nat.blt d N with
   | true=>match vOp F S H (ev T) o.op with
    | some v=>match o.guard with
     | none=>runQ F S N H ops n l ((d,v)::T)
     | some (j,w)=>match (ops[j]?).bind (·.dst) with
      | some g=>match look g T with
       | some (.d (.val (.bool b)))=>match sameB b w with
        | true=>runQ F S N H ops n l ((d,v)::T)
        | false=>none
       | _=>none
      | none=>none
    | none=>none
   | false=>none
  | none=>none
 | _+1,[],_=>none
section
variable [ztS] [Drw] {P:Program} [Tab P] {C:Ctx} {ops:Array Oper} {Q:Exit→St→Prop}
theorem zrJ {H rest T'} (k:TriL P C ops rest Q ⟨T',H⟩):∀ (n:Nat) (l:List Oper) (T:List (Nat×V)),runA (Tab.F P) (Tab.S P) C.n H n l T=some (rest,T')→TriL P C ops l Q ⟨T,H⟩
 | 0,l,T,h=>by cases h;exact k
 | n+1,[],T,h=>by cases h
 | n+1,o::l,T,h=>by
  rw [runA] at h;split at h
  ·split at h
   ·split at h
    ·have hd:=‹o.dst=_›;refine .op ‹o.guard=_› (by rw [hd];exact ‹Nat.blt _ _=_›) (zrS ‹vOp _ _ _ _ _=_›) ?_;rw [hd];exact zrJ k n l _ h
    ·cases h
   ·cases h
  ·cases h
theorem zsh:∀ {a b:Bool},sameB a b=true→a=b
 | true,true,_=>rfl
 | false,false,_=>rfl
theorem zpq {N H al} {K:List Ev→List (Nat×V)→Prop} {rest T'} (k:TriQ P N ops H rest al T' K):∀ (n:Nat) (l:List Oper) (T:List (Nat×V)),runQ (Tab.F P) (Tab.S P) N H ops n l T=some (rest,T')→TriQ P N ops H l al T K
 | 0,l,T,h=>by cases h;exact k
 | n+1,[],T,h=>by cases h
 | n+1,o::l,T,h=>by
  rw [runQ] at h;split at h
  ·split at h
   ·split at h
    ·split at h
     ·exact .op ‹o.guard=_› ‹o.dst=_› ‹Nat.blt _ _=_› (zqg ‹vOp _ _ _ _ _=_›) (zrS ‹vOp _ _ _ _ _=_›) (zpq k n l _ h)
     ·split at h
      ·split at h
       ·split at h
        ·have hs:=zsh ‹sameB _ _=_›;exact .gop ‹o.guard=_› ‹Option.bind _ _=_› (by rw [← hs];exact ‹look _ _=_›) ‹o.dst=_› ‹Nat.blt _ _=_› (zqg ‹vOp _ _ _ _ _=_›) (zrS ‹vOp _ _ _ _ _=_›) (zpq k n l _ h)
        ·cases h
       ·cases h
      ·cases h
    ·cases h
   ·cases h
  ·cases h
end
def zxw:List Nat→List (Nat×V)→List (Nat×V)→Option (List (Nat×V))
 | [],_,acc=>some acc
 | k::ks,T,acc=>match look k T with
  | some v=>zxw ks T ((k,v)::acc)
  | none=>none
theorem ziZ {T}:∀ {ks:List Nat} {acc K:List (Nat×V)},zxw ks T acc=some K→Sub acc T→Sub K T
 | [],acc,K,h,hs=>by cases h;exact hs
 | k::ks,acc,K,h,hs=>by
  rw [zxw] at h;cases hl:look k T with
  | none=>rw [hl] at h;cases h
  | some v=>rw [hl] at h;exact ziZ h ⟨hl,hs⟩
def revB {β:Type}:List Blk→List Blk→(List Blk→β)→β
 | [],acc,k=>k acc
 | b::l,acc,k=>revB l (b::acc) k
theorem zrE {β:Type}:∀ (l acc:List Blk) (k:List Blk→β),revB l acc k=k (l.reverse++acc)
 | [],acc,k=>by simp [revB]
 | b::l,acc,k=>by rw [revB,zrE l];simp
def keepK (ks:List Nat) (s:St):Option (List (Nat×V)×List Blk):=match zxw ks s.T [] with
 | some K=>revB s.H [] λr=>revB r [] λH=>some (K,H)
 | none=>none
section
variable [ztS] [Drw] {P:Program} {C:Ctx} {Q:Exit→St→Prop}
theorem Tri.K (ks) {c s K H} (h:keepK ks s=some (K,H)) (k:Tri P C c Q ⟨K,H⟩):Tri P C c Q s:=by
 unfold keepK at h;cases hp:zxw ks s.T [] with
 | none=>rw [hp] at h;cases h
 | some K'=>
  rw [hp] at h;simp only [zrE,y8,List.reverse_reverse,yj,yv] at h;obtain ⟨rfl,rfl⟩:=h;exact Tri.le (s:=s) (t:=⟨K',s.H⟩) ⟨rfl,ziZ hp trivial⟩ k
theorem Looks.of {T}:∀ (ks:List Nat) (K0:List (Nat×V)),Sub K0 T→(K0.map (·.1))=ks→Looks T ks K0
 | _,[],_,rfl=>.nil
 | _,(k,v)::K,h,rfl=>.cons h.1 (Looks.of _ K h.2 rfl)
def lks:List (Nat×V)→List (Nat×V)→List (Option V)
 | [],_=>[]
 | (k,_)::l,T=>look k T::lks l T
def vls:List (Nat×V)→List (Option V)
 | []=>[]
 | (_,v)::l=>some v::vls l
theorem zlA {T}:∀ {l:List (Nat×V)},lks l T=vls l→Sub l T
 | [],_=>trivial
 | (k,v)::l,h=>by
  simp only [lks,vls,List.cons.injEq] at h;exact ⟨h.1,zlA h.2⟩
theorem gE {s t:St} {X:List Blk} (h:(s.H,t.H.all (Blk.under t.H.length),t.T.all λp=>p.2.under t.H.length,lks t.T s.T)=(t.H++X,true,true,vls t.T)):s.ge t:=by
 simp only [yv] at h;exact ⟨X,h.1,h.2.1,h.2.2.1,zlA h.2.2.2⟩
theorem ndE {σ R:Type} {k:σ→Option R} {r:R} {J:σ→St} {s:St} {v:σ} {X:List Blk} (h:k v=some r) (g:(s.H,(J v).H.all (Blk.under (J v).H.length),(J v).T.all λp=>p.2.under (J v).H.length,lks (J v).T s.T)=((J v).H++X,true,true,vls (J v).T)):∃ v,k v=some r∧s.ge (J v):=⟨v,h,gE g⟩
theorem Tri.L {σ R:Type} {c} {body:(σ→Option R)→σ→Option R} {n:Nat} {init:σ} {r:R} {s} (ks:List Nat) {K X} (h:ztO body n init=some r) (upd:σ→List (Nat×V)) (hf:σ→List (Nat×Blk))
  (g:(zxw ks s.T [],s.H,(over s.H (hf init)).all (Blk.under (over s.H (hf init)).length),(upd init++K).all λp=>p.2.under (over s.H (hf init)).length,lks (upd init++K) s.T,Nat.ble C.gn s.H.length)=(some K,over s.H (hf init)++X,true,true,vls (upd init++K),true))
  (hb:∀ (rec:σ→Option R) (v:σ),body rec v=some r→Tri P C c (zxP rec r (λv=>⟨upd v++K,over s.H (hf v)⟩) Q) ⟨upd v++K,over s.H (hf v)⟩):Tri P C (.loop c) Q s:=by
 simp only [yv] at g;obtain ⟨g1,g2,g3,g4,g5,g6⟩:=g;exact .loopS (K.map (·.1)) upd hf (Looks.of _ K (ziZ g1 trivial) rfl) h ⟨X,g2,g3,g4,zlA g5⟩ hb g6
theorem Tri.J {σ R:Type} {x y} {k:σ→Option R} {m:(σ→Option R)→Option R} {r:R} {s} (ks:List Nat) {K} (h:jn k m=some r) (upd:σ→List (Nat×V)) (hf:σ→List (Nat×Blk)) (g:(zxw ks s.T [],Nat.ble C.gn s.H.length)=(some K,true))
  (hm:∀ k':σ→Option R,m k'=some r→Tri P C x (zxP k' r (λv=>⟨upd v++K,over s.H (hf v)⟩) Q) s)
  (hk:∀ v,k v=some r→Tri P C y Q ⟨upd v++K,over s.H (hf v)⟩):Tri P C (.seq x y) Q s:=by
 simp only [yv] at g;exact .join (K.map (·.1)) upd hf (Looks.of _ K (ziZ g.1 trivial) rfl) h hm hk g.2
end
theorem TriI.kt [ztS] [Drw] {P C ops fuel listed listed' Q T K H H'} (k:TriI P C ops fuel listed' Q ⟨K,H⟩) (h:(H',lks K T)=(H,vls K)) (e:listed=listed':=by decide +kernel):TriI P C ops fuel listed Q ⟨T,H'⟩:=by
 simp only [yv] at h;rw [h.1];exact .zvU (K.map (·.1)) (Looks.of _ K (zlA h.2) rfl) (e▸k)
theorem TriA.kt [ztS] [Drw] {P C ops fuel listed listed' Q T K H H'} (k:TriA P C ops fuel listed' Q ⟨K,H⟩) (h:(H',lks K T)=(H,vls K)) (e:listed=listed':=by decide +kernel):TriA P C ops fuel listed Q ⟨T,H'⟩:=by
 simp only [yv] at h;rw [h.1];exact .zvU (K.map (·.1)) (Looks.of _ K (zlA h.2) rfl) (e▸k)
def bN (n k:Nat):Array Bool:=((List.range n).map k.testBit).toArray
section
variable [Drw]
def tFl:List (Nat×List (Option Nat)):=[(30,[some 0,some 1,some 2,some 3,some 4,some 5,some 6]),(32,[some 0,some 1]),(34,[some 0,some 1]),(40,[some 0,some 1,some 2,some 3,some 4]),(42,[some 0,some 1,none,some 7]),(55,[some 0,some 1]),(57,[some 0,some 1,none,some 4,some 5]),(64,[some 0,some 1,some 2]),(77,[some 0,some 1,some 2]),(79,[some 0,some 1]),(83,[some 0,some 1]),(87,[some 0,some 1,some 2,some 3]),(91,[some 0,none,some 2,none,some 8]),(107,[some 0,some 1,some 2,none,some 5]),(109,[some 0,some 1]),(111,[some 0,none,some 2]),(113,[some 0,some 1]),(124,[some 0,some 1,some 2]),(132,[none,some 4,some 5,some 6]),(134,[some 0,some 1]),(149,[some 0,some 1,some 2]),(153,[none,some 4,some 5,some 6]),(192,[some 0,some 1,some 2,some 3]),(202,[some 0,some 1,some 2]),(218,[none,some 7,some 8]),(223,[some 0,some 1]),(243,[some 0,some 1,some 2]),(255,[none,some 7]),(271,[some 0,none,some 2,some 3])]
def tSl:List (Nat×Option Nat):=[(3,none),(4,none),(5,none),(9,none),(22,none),(23,none),(24,none),(25,none),(26,none),(27,none),(28,none),(30,some 7),(34,some 4),(37,none),(38,none),(40,some 5),(42,some 8),(53,none),(55,some 2),(57,some 6),(64,some 3),(73,none),(74,none),(75,none),(77,some 3),(79,some 5),(80,none),(83,some 2),(84,none),(85,none),(87,some 4),(91,some 9),(107,some 6),(109,some 2),(111,some 3),(113,some 2),(124,some 3),(130,none),(134,some 7),(149,some 3),(153,some 7),(173,none),(192,some 4),(202,some 3),(216,none),(223,some 2),(243,some 3),(255,some 8),(278,none),(283,none)]
def tXl:List (Nat×Nat):=[(22,1),(23,6),(24,1),(25,6),(26,3),(27,5),(28,3),(37,3),(38,5),(51,1),(53,2),(73,2),(74,2),(75,3),(80,2),(84,3),(85,1),(173,1),(267,4)]
def tX:Nat→Option Nat:=assN tXl
def tCl:List Nat:=[8,9,10,11,12,13,14,15,16,17,18,19,20,21,22,23,24,25,26,27,28,29,30,31,32,33,34,35,36,37,38,39,40,41,42,43,44,45,46,47,48,49,50,51,52,53,54,55,56,57,58,59,60,61,62,63,64,65,66,67,68,69,70,71,72,73,74,75,76,77,78,79,80,81,82,83,84,85,86,87,88,89,90,91,92,93,94,95,96,97,98,99,100,101,102,103,104,105,106,107,108,109,110,111,112,113,114,115,116,117,118,119,120,121,122,123,124,125,126,127,128,129,130,131,132,133,134,135,136,137,138,139,140,141,142,143,144,145,146,147,148,149,150,151,152,153,155,156,157,158,159,160,161,162,163,164,165,169,170,171,172,173,174,175,176,177,178,179,180,181,182,183,184,185,186,187,188,189,190,191,192,193,194,195,196,197,198,199,200,201,202,203,204,205,206,207,208,209,211,214,215,216,217,218,219,220,221,222,223,224,225,226,227,228,229,230,231,232,233,234,235,236,237,238,239,240,241,242,243,244,245,246,247,258,259,260,261,262,263,264,265,266,267,268,269,270,271,272,273,274,275,276,277,278,279,281,287,288,289,290,291,292,294,295,297,298,300,301,302,303,304,305,306,307,308,309,310,311,312,313,314,315]
def tF:Nat→Nat→Option Nat:=tbF tFl
def tS:Nat→Option (Option Nat):=assN tSl
instance tabI:Tab Tryz.prog:=.mk' (F:=tF) (S:=tS) tFl tSl (by kernel_rfl) (by kernel_rfl) rfl rfl
section
variable {C:Ctx} {ops:Array Oper} {Q:Exit→St→Prop} {l rest:List Oper} {T':List (Nat×V)} {s:St} {id:Nat}
theorem TriL.A (n:Nat) (h:runA tF tS C.n s.H n l s.T=some (rest,T')) (k:TriL Tryz.prog C ops rest Q ⟨T',s.H⟩):TriL Tryz.prog C ops l Q s:=zrJ k n l s.T h
theorem Tri.sA (n:Nat) {y:Code} (h:runA tF tS C.n s.H n l s.T=some ([],T')) (k:Tri Tryz.prog C y Q ⟨T',s.H⟩):Tri Tryz.prog C (.seq (.region id l.toArray false) y) Q s:=.sr (.A n h (.nil k))
theorem Tri.S (n:Nat) {y:Code} (h:runA tF tS C.n s.H n l s.T=some (rest,T')) (k:TriL Tryz.prog C l.toArray rest (zwL (Tri Tryz.prog C y Q) Q) ⟨T',s.H⟩):Tri Tryz.prog C (.seq (.region id l.toArray false) y) Q s:=.sr (.A n h k)
theorem Tri.rA (n:Nat) (h:runA tF tS C.n s.H n l s.T=some ([],T')) (k:Q .normal ⟨T',s.H⟩):Tri Tryz.prog C (.region id l.toArray false) Q s:=.region (.A n h (.nil k))
theorem TriQ.A (n:Nat) {N:Nat} {H:List Blk} {al:List Ev} {K:List Ev→List (Nat×V)→Prop} {T:List (Nat×V)} (h:runQ tF tS N H ops n l T=some (rest,T')) (k:TriQ Tryz.prog N ops H rest al T' K):TriQ Tryz.prog N ops H l al T K:=zpq k n l T h
end
def tCn:List (Nat×Nat):=[(3,1),(4,1),(9,1),(22,1),(30,7),(34,4),(37,1),(38,1),(40,5),(42,8),(53,1),(55,2),(57,6),(74,1),(79,5),(80,1),(83,2),(84,1),(85,1),(87,4),(91,9),(107,6),(124,3),(130,1),(134,7),(153,7),(173,1),(192,4),(216,1),(223,2),(243,3),(271,4),(283,1)]
def tC:Nat→Option Nat:=assN tCn
theorem zs9:(tCn.all λp=>ceB Tryz.prog p.1 p.2)=true:=by kernel_rfl
theorem ztD {t n:Nat} (h:tC t=some n):cellsOf Tryz.prog t=some n:=ztj (yq.1 zs9 (_,_) (zfZ h))
def tZn:List (Nat×Option Nat):=[(30,some 7),(34,some 4),(40,some 5),(42,some 8),(55,some 2),(57,some 6),(77,some 3),(79,some 5),(83,some 2),(87,some 4),(91,some 9),(107,some 6),(109,some 2),(111,some 3),(113,some 2),(124,some 3),(134,some 7),(149,some 3),(153,some 7),(192,some 4),(202,some 3),(223,some 2),(243,some 3),(255,some 8)]
def tZ:Nat→Option (Option Nat):=assN tZn
theorem ztH:(tZn.all λp=>zcd Tryz.prog p.1 p.2)=true:=by kernel_rfl
theorem tZ_ok {t k} (h:tZ t=some k):zcd Tryz.prog t k=true:=yq.1 ztH (_,_) (zfZ h)
def tPn:List (Nat×List (Nat×Nat)):=[(30,[(0,1),(1,1),(2,1),(3,1),(4,1),(5,1),(6,1)]),(32,[(0,1),(1,1)]),(34,[(0,1),(1,1),(2,2)]),(40,[(0,1),(1,1),(2,1),(3,1),(4,1)]),(42,[(0,1),(1,1),(2,5),(7,1)]),(55,[(0,1),(1,1)]),(57,[(0,1),(1,1),(2,2),(4,1),(5,1)]),(77,[(0,1),(1,1),(2,1)]),(79,[(0,1),(1,1),(2,3)]),(83,[(0,1),(1,1)]),(87,[(0,1),(1,1),(2,1),(3,1)]),(91,[(0,1),(1,1),(2,1),(3,5),(8,1)]),(107,[(0,1),(1,1),(2,1),(3,2),(5,1)]),(109,[(0,1),(1,1)]),(111,[(0,1),(1,1),(2,1)]),(113,[(0,1),(1,1)]),(124,[(0,1),(1,1),(2,1)]),(132,[(0,4),(4,1),(5,1),(6,1)]),(134,[(0,1),(1,1),(2,5)]),(149,[(0,1),(1,1),(2,1)]),(153,[(0,4),(4,1),(5,1),(6,1)]),(182,[]),(192,[(0,1),(1,1),(2,1),(3,1)]),(218,[(0,7),(7,1),(8,1)]),(221,[(0,1),(1,1)]),(223,[(0,1),(1,1)]),(255,[(0,7),(7,1)]),(271,[(0,1),(1,1),(2,1),(3,1)])]
def tP:Nat→Option (List (Nat×Nat)):=assN tPn
theorem ztF:(tPn.all λp=>plB Tryz.prog p.1 p.2)=true:=by kernel_rfl
theorem tP_ok {t l} (h:tP t=some l):zcs Tryz.prog t=some l:=ztA (yq.1 ztF (_,_) (zfZ h))
section
variable {C:Ctx} {ops:Array Oper} {Q:Exit→St→Prop} {o o1 o2:Oper} {rest:List Oper} {T:List (Nat×V)} {H:List Blk} {α:Type} {t r i off n k kk d g j:Nat} {x y:Operand} {bt:TypeId} {cs:List V} {e:D} {s:St}
theorem TriL.so (g:(o.guard,o.op,o.dst,ev T x,nthD H i,ev T y,e.ones,tC t,(V.zuB (.d e)).length,Nat.ble (off+n) cs.length)=(none,.store t x y,none,some (.loc i off),some (.box bt cs),some (.d e),true,some n,n,true))
  (k:TriL Tryz.prog C ops rest Q ⟨T,H.set i (.box bt (cs.take off++V.zuB (.d e)++cs.drop (off+n)))⟩):TriL Tryz.prog C ops (o::rest) Q ⟨T,H⟩:=by
 simp only [yv] at g
 obtain ⟨g1,g2,g3,g4,g5,g6,g7,g8,g9,g10⟩:=g
 exact .store g1 g2 g3 g4 (zgc g5) g6 (.ofD g7) (ztD g8) g9 (yf g10) k
def neT:Operand→Nat→Bool
 | .tmp t,r=>!Nat.beq t r
 | _,_=>true
theorem TriL.aS {z:Option Nat} (g:(o1.guard,o2.guard,o1.op,o1.dst,o2.op,o2.dst,Nat.blt r C.n,ev s.T x,neT x r,tZ t,zjW e z,e.ones)=(none,none,.alloc t,some r,.store t (.tmp r) x,none,true,some (.d e),true,some z,true,true))
  (k:TriL Tryz.prog C ops rest Q (s.put (some r) (.d (.ref e)))):TriL Tryz.prog C ops (o1::o2::rest) Q s:=by
 simp only [yv] at g
 obtain ⟨g1,g2,g3,g4,g5,g6,g7,g8,g9,g10,g11,g12⟩:=g
 exact .zvj g1 g2 g3 g4 g5 g6 g7 g8 (by rintro rfl;simp [neT] at g9) (zjX g11) g12 (tZ_ok g10) k
theorem Tri.dr {id:Nat} {l:List Oper} (n) (h:TriQ Tryz.prog C.n l.toArray s.H (l.take n) [] s.T (λal T=>TriL Tryz.prog C l.toArray (l.drop n) Q (zst Tryz.prog s.H al T))) (h1:regOK l n=true:=by kernel_rfl) (h2:(zh4 (l.take n)&&zgg (l.take n))=true:=by kernel_rfl):Tri Tryz.prog C (.region id l.toArray true) Q s:=.draw n Hm h1 h2 h
def covs:List (Nat×Nat×D)→Nat→Bool
 | [],_=>false
 | (a,n,_)::l,i=>match Nat.ble a i&&Nat.blt i (a+n) with
  | true=>true
  | false=>covs l i
def zl1 (c d:D):D:=match c,d with
 | .val (.slice none 0 0),.sl k _=>.sl k []
 | .val (.slice none 0 0),.osl k _=>.osl k []
 | _,_=>c
theorem ztI (c d):D.Le c (zl1 c d):=by
 unfold zl1
 split
 ·exact .nil _
 ·exact .onil _
 ·exact .refl _
def zlp (ps:List (Nat×Nat×D)):Nat→List D→List D→List D
 | i,c::cs,d::ds=>(match covs ps i with
  | true=>c
  | false=>zl1 c d)::zlp ps (i+1) cs ds
 | _,cs,[]=>cs
 | _,[],_=>[]
theorem lesR:∀ (cs:List D),D.Les cs cs
 | []=>.nil
 | _::cs=>.cons (.refl _) (lesR cs)
theorem zrV {ps}:∀ {cs:List D} (i:Nat) (ds:List D),D.Les cs (zlp ps i cs ds)
 | [],i,[]=>.nil
 | [],i,_::_=>.nil
 | c::cs,i,[]=>lesR _
 | c::cs,i,d::ds=>.cons (by
  split
  ·exact .refl _
  ·exact ztI c d) (zrV (i+1) ds)
theorem OpV.B {ev':Operand→Option V} {ds zc:List D} {parts:Array (Nat×Operand)} {ps:List (Nat×Nat×D)} {pl:List (Nat×Nat)} (e:D) (hz:zux Tryz.prog t=some zc) (g:(e,o.op,tP t,zmN ev' pl parts.toList,zwZ (zlp ps 0 zc ds) ps)=(.agg ds,.build t parts,some pl,some ps,some ds)):OpV Tryz.prog o ev' H (.d e):=by
 simp only [yv] at g
 obtain ⟨g1,g2,g3,g4,g5⟩:=g
 rw [g1];exact .build g2 (tP_ok g3) (.agg hz (zrV 0 ds)) g4 g5
end
theorem ztG:(tXl.all λp=>slB Tryz.prog p.1 p.2)=true:=by kernel_rfl
theorem zyq {t k:Nat} (h:tX t=some k):∃ el,Tryz.prog.underlying t=some (.slice el)∧(Tryz.prog.info? el).map (·.size)=some k:=slAll ztG h
theorem ztE:tCl.all (ztT Tryz.prog)=true:=by kernel_rfl
theorem zt1 {f:FuncId} (h:memN tCl f=true):ztT Tryz.prog f=true:=clAll ztE h
section
variable {C:Ctx} {ops:Array Oper} {Q:Exit→St→Prop} {o:Oper} {rest:List Oper} {s:St} {α β R:Type} {r:R}
theorem TriL.X {l:List α} {enc:α→D} {a:Int} {k:α→Option R} {x i:Operand} {t:TypeId} {kk:Nat} (h:(idx l a).bind k=some r) (g:(o.guard,zup o.dst C.n,o.op,ev s.T x,ev s.T i,tX t)=(none,true,.indexAddr t x i,some (.d (.sl kk (l.map enc))),some (.d (.int a)),some kk))
  (f:∀ v,k v=some r→TriL Tryz.prog C ops rest Q (s.put o.dst (.d (.ref (enc v))))):TriL Tryz.prog C ops (o::rest) Q s:=by
 simp only [yv] at g
 obtain ⟨g1,g2,g3,g4,g5,g6⟩:=g
 obtain ⟨v,hv,hk⟩:=zvq h
 obtain ⟨el,u1,u2⟩:=zyq g6
 exact .op g1 g2 (.idx g3 g4 g5 u1 u2 hv) (f v hk)
theorem TriL.e {l:List α} {enc:α→D} {x:Operand} {t:TypeId} {kk k:Nat} (g:(o.guard,zup o.dst C.n,o.op,ev s.T x,tX t)=(none,true,.call { callee:=.builtin .len,args:=#[x],argTypes:=#[t] },some (.d (.sl k (l.map enc))),some kk)) (f:TriL Tryz.prog C ops rest Q (s.put o.dst (.d (.int l.length)))):TriL Tryz.prog C ops (o::rest) Q s:=by
 simp only [yv] at g
 obtain ⟨g1,g2,g3,g4,g5⟩:=g
 obtain ⟨el,u1,_⟩:=zyq g5
 exact .op g1 g2 (.len g3 u1 g4) f
theorem TriL.Z {m:Option β} {k:β→Option R} {enc:β→D} {f:FuncId} {args:Array Operand} {tys:Array TypeId} {xs:List D} (h:m.bind k=some r) (g:(o.guard,zup o.dst C.n,o.op,memN tCl f,evs (ev s.T) args.toList)=(none,true,.call { callee:=.value (.func f),args:=args,argTypes:=tys },true,some xs))
  (hp:∀ v,m=some v→Pure Tryz.prog f xs (enc v)) (c:∀ v,k v=some r→TriL Tryz.prog C ops rest Q (s.put o.dst (.d (enc v)))):TriL Tryz.prog C ops (o::rest) Q s:=by
 simp only [yv] at g
 obtain ⟨g1,g2,g3,g4,g5⟩:=g
 obtain ⟨v,hv,hk⟩:=zvq h
 exact .op g1 g2 (.call g3 (zt1 g4) g5 (hp v hv)) (c v hk)
variable {N d:Nat} {H:List Blk} {al:List Ev} {K:List Ev→List (Nat×V)→Prop} {T:List (Nat×V)}
theorem TriQ.X {l:List α} {enc:α→D} {a:Int} {k:α→Option R} {x i:Operand} {t:TypeId} {kk:Nat} (h:(idx l a).bind k=some r) (g:(o.guard,o.dst,Nat.blt d N,zal o,o.op,ev T x,ev T i,tX t)=(none,some d,true,false,.indexAddr t x i,some (.d (.sl kk (l.map enc))),some (.d (.int a)),some kk))
  (f:∀ v,k v=some r→TriQ Tryz.prog N ops H rest al ((d,.d (.ref (enc v)))::T) K):TriQ Tryz.prog N ops H (o::rest) al T K:=by
 simp only [yv] at g
 obtain ⟨g1,g2,g2',g2'',g3,g4,g5,g6⟩:=g
 obtain ⟨v,hv,hk⟩:=zvq h
 obtain ⟨el,u1,u2⟩:=zyq g6
 exact .op g1 g2 g2' g2'' (.idx g3 g4 g5 u1 u2 hv) (f v hk)
theorem TriQ.e {l:List α} {enc:α→D} {x:Operand} {t:TypeId} {kk k:Nat} (g:(o.guard,o.dst,Nat.blt d N,zal o,o.op,ev T x,tX t)=(none,some d,true,false,.call { callee:=.builtin .len,args:=#[x],argTypes:=#[t] },some (.d (.sl k (l.map enc))),some kk)) (f:TriQ Tryz.prog N ops H rest al ((d,.d (.int l.length))::T) K):TriQ Tryz.prog N ops H (o::rest) al T K:=by
 simp only [yv] at g
 obtain ⟨g1,g2,g2',g2'',g3,g4,g5⟩:=g
 obtain ⟨el,u1,_⟩:=zyq g5
 exact .op g1 g2 g2' g2'' (.len g3 u1 g4) f
theorem TriQ.qe {l:List α} {enc:α→D} {x:Operand} {t:TypeId} {kk k j w:Nat} {b:Bool} (g:(o.guard,(ops[j]?).bind (·.dst),look w T,o.dst,Nat.blt d N,zal o,o.op,ev T x,tX t)=(some (j,b),some w,some (.d (.bool b)),some d,true,false,.call { callee:=.builtin .len,args:=#[x],argTypes:=#[t] },some (.d (.sl k (l.map enc))),some kk)) (f:TriQ Tryz.prog N ops H rest al ((d,.d (.int l.length))::T) K):TriQ Tryz.prog N ops H (o::rest) al T K:=by
 simp only [yv] at g
 obtain ⟨g0,g1,g2,g2',g2'',g3,g4,g5,g6⟩:=g
 obtain ⟨el,u1,_⟩:=zyq g6
 exact .gop g0 g1 g2 g2' g2'' g3 (.len g4 u1 g5) f
theorem TriQ.Z {m:Option β} {k:β→Option R} {enc:β→D} {f:FuncId} {args:Array Operand} {tys:Array TypeId} {xs:List D} (h:m.bind k=some r) (g:(o.guard,o.dst,Nat.blt d N,zal o,o.op,memN tCl f,evs (ev T) args.toList)=(none,some d,true,false,.call { callee:=.value (.func f),args:=args,argTypes:=tys },true,some xs))
  (hp:∀ v,m=some v→Pure Tryz.prog f xs (enc v)) (c:∀ v,k v=some r→TriQ Tryz.prog N ops H rest al ((d,.d (enc v))::T) K):TriQ Tryz.prog N ops H (o::rest) al T K:=by
 simp only [yv] at g
 obtain ⟨g1,g2,g2',g2'',g3,g4,g5⟩:=g
 obtain ⟨v,hv,hk⟩:=zvq h
 exact .op g1 g2 g2' g2'' (.call g3 (zt1 g4) g5 (hp v hv)) (c v hk)
end
end
section
def zvV:Nat→Prop:=λ_=>False
structure Dec (P:Program) (t:TypeId) (α:Type) where
 k:Nat
 pos:0<k
 cells:P.cellsOf t=k
 flat:α→List D
 el:α→D
 good:α→Prop
 opens:∀ {H:Type} {enc:TypeId×Value→H} {w:World} {sp:Nat→Bool} {held:Bool} {fuel:Nat} {cs:List Value} {x:DataW H×List MemPlace},DataW.trod enc P w 0 sp held fuel t cs=some x→∃ a,D.reps zvV w (flat a) cs∧good a
 elOK:∀ {w:World} {a:α} {cs:List Value},D.reps zvV w (flat a) cs→∃ u,D.rep zvV w (el a) u∧u.cells.toList=cs
 arg:∀ {w:World} {r:Reach} {base:Nat} {v:Value} {a:α},Value.okWide P w r base t v→D.reps zvV w (flat a) v.cells.toList→D.rep zvV w (el a) v
theorem zhx {A w d v} (h:D.rep A w d v):D.reps A w [d] [v]:=by
 simp only [D.reps];exact ⟨v,[],rfl,h,rfl⟩
theorem zcn {A w d cs} (h:D.reps A w [d] cs):∃ v,cs=[v]∧D.rep A w d v:=by
 simp only [D.reps] at h;obtain ⟨v,vs,rfl,h1,rfl⟩:=h;exact ⟨v,rfl,h1⟩
theorem zp4 {A w}:∀ {xs ys:List D} {vs us:List Value},D.reps A w xs vs→D.reps A w ys us→D.reps A w (xs++ys) (vs++us)
 | [],ys,vs,us,h,k=>by simp only [D.reps] at h;subst h;exact k
 | x::xs,ys,vs,us,h,k=>by
  simp only [D.reps] at h;obtain ⟨v,vs',rfl,h1,h2⟩:=h;simp only [ug,D.reps];exact ⟨v,vs'++us,rfl,h1,zp4 h2 k⟩
variable {P:Program}
theorem zrf {n:Int} (h:(Lit.int .i64 n).wf=true) : -9223372036854775808≤n∧n≤9223372036854775807:=by
 have e1:IntKind.min .i64 = -9223372036854775808:=by decide
 have e2:IntKind.max .i64=9223372036854775807:=by decide
 simp only [Lit.wf,yd,yg,e1,e2] at h;exact h
def ztr {t:TypeId} (ht:P.underlying t=some (.int .i64)) (hc:P.cellsOf t=1):Dec P t Int where
 k:=1
 pos:=by decide
 cells:=hc
 flat n:=[.int n]
 el n:=.int n
 good n:=-9223372036854775808≤n∧n≤9223372036854775807
 opens h:=by
  obtain ⟨n,rfl,-,hr⟩:=DataW.trod_int ht h;exact ⟨n,zhx (by simp only [D.rep]),zrf hr⟩
 elOK {w a cs} h:=by
  obtain ⟨v,rfl,h1⟩:=zcn h;simp only [D.rep] at h1;subst h1;exact ⟨.int .i64 a,by simp only [D.rep],rfl⟩
 arg hv h:=by
  obtain ⟨n,rfl⟩:=WideShapes.okWide_int ht hv;obtain ⟨v,hv',h1⟩:=zcn h;obtain rfl:=List.head_eq_of_cons_eq hv';exact h1
def zsO {t:TypeId} (ht:P.underlying t=some .bool) (hc:P.cellsOf t=1):Dec P t Bool where
 k:=1
 pos:=by decide
 cells:=hc
 flat n:=[.bool n]
 el n:=.bool n
 good _:=True
 opens h:=by
  obtain ⟨n,rfl,-⟩:=DataW.trod_bool ht h;exact ⟨n,zhx (by simp only [D.rep]),trivial⟩
 elOK {w a cs} h:=by
  obtain ⟨v,rfl,h1⟩:=zcn h;simp only [D.rep] at h1;subst h1;exact ⟨.bool a,by simp only [D.rep],rfl⟩
 arg hv h:=by
  obtain ⟨n,rfl⟩:=WideShapes.okWide_bool ht hv;obtain ⟨v,hv',h1⟩:=zcn h;obtain rfl:=List.head_eq_of_cons_eq hv';exact h1
def zts {t:TypeId} (ht:P.underlying t=some .string) (hc:P.cellsOf t=1):Dec P t (List UInt8) where
 k:=1
 pos:=by decide
 cells:=hc
 flat s:=[.str s]
 el s:=.str s
 good _:=True
 opens h:=by
  obtain ⟨s,rfl,-,-⟩:=DataW.trod_string ht h;exact ⟨s.data.toList,zhx (by simp only [D.rep]),trivial⟩
 elOK {w a cs} h:=by
  obtain ⟨v,rfl,h1⟩:=zcn h;simp only [D.rep] at h1;subst h1;exact ⟨.string ⟨a.toArray⟩,by simp only [D.rep],rfl⟩
 arg hv h:=by
  obtain ⟨n,rfl⟩:=WideShapes.okWide_string ht hv;obtain ⟨v,hv',h1⟩:=zcn h;obtain rfl:=List.head_eq_of_cons_eq hv';exact h1
theorem zkw {α:Type} {t e:TypeId} (d:Dec P e α) {H:Type} {enc:TypeId×Value→H} {w:World} {sp:Nat→Bool} {held:Bool} {n:Nat} {b off:Nat}:∀ (m:Nat) (DD:Nat→DataW H) (Pl:Nat→List MemPlace) (o:Nat),
  (∀ i,i<m→∃ cs',w.cells? 0 ((⟨b,off,none⟩:Addr).add ((o+i)*P.cellsOf e)) (P.cellsOf e)=some cs'∧DataW.trod enc P w 0 sp held n e cs'=some (DD i,Pl i))→∃ l:List α,(l.length=m∧∀ x∈l,d.good x)∧D.row zvV w b d.k (l.map d.el) (off+o*d.k)
 | 0,_,_,_,_=>⟨[],⟨rfl,by simp⟩,by simp only [List.map_nil,D.row]⟩
 | m+1,DD,Pl,o,h=>by
  obtain ⟨cs',h1,h2⟩:=h 0 (by omega);obtain ⟨a,ha,hg⟩:=d.opens h2;obtain ⟨u,hu1,hu2⟩:=d.elOK ha;obtain ⟨l,⟨hl1,hlg⟩,hl2⟩:=zkw (t:=t) d m (λi=>DD (i+1)) (λi=>Pl (i+1)) (o+1) (λi hi=>by
   have:=h (i+1) (by omega)
   rwa [show o+(i+1)=o+1+i by omega] at this)
  refine ⟨a::l,⟨by simp [hl1],λx hx=>by
   rcases yI.1 hx with rfl | hx
   ·exact hg
   ·exact hlg x hx⟩,?_⟩
  simp only [yV,D.row];obtain ⟨-,c2,c3⟩:=World.cells?_some h1;have hsz:u.cells.size=d.k:=by rw [← yt,hu2,c2,d.cells]
  refine ⟨⟨u,hu1,λj hj=>?_,hsz⟩,?_⟩
  ·have:=c3 j (by rw [d.cells];omega);rw [ut,d.cells,Deep.add_add] at this;have hadd:(⟨b,off,none⟩:Addr).add (o*d.k+j)=⟨b,off+o*d.k+j,none⟩:=by
    unfold Addr.add;by_cases h0:o*d.k+j=0
    ·rw [if_pos h0];congr 1;omega
    ·rw [if_neg h0];show (⟨b,off+(o*d.k+j),none⟩:Addr)=_;congr 1;omega
   rw [hadd] at this;rw [this,← hu2,y0]
  ·rw [show off+(o+1)*d.k=off+o*d.k+d.k by rw [uo];omega] at hl2;exact hl2
def zwy {α:Type} {t e:TypeId} (d:Dec P e α) (ht:P.underlying t=some (.slice e)) (hc:P.cellsOf t=1):Dec P t (List α) where
 k:=1
 pos:=by decide
 cells:=hc
 flat l:=[.sl d.k (l.map d.el)]
 el l:=.sl d.k (l.map d.el)
 good l:=∀ x∈l,d.good x
 opens {H enc w sp held fuel cs x} h:=by
  rcases Deep.open_slice ht h with ⟨rfl,-⟩ | ⟨a,len,cap,m,n,DD,Pl,rfl,-,hl,-,hm,-,hx⟩
  ·exact ⟨[],zhx (by simp only [List.map_nil,D.rep,un];exact ⟨none,0,rfl,yk _,.inl trivial⟩),by simp⟩
  ·have hlm:len≤m:=by rw [hm];split <;> omega
   cases len with
   | zero=>exact ⟨[],zhx (by simp only [List.map_nil,D.rep,un];exact ⟨_,cap,rfl,yp _,.inl trivial⟩),by simp⟩
   | succ len=>
    obtain ⟨cs',h1,h2⟩:=hx 0 (by omega);obtain ⟨-,c2,c3⟩:=World.cells?_some h1;have hp:=d.pos;have h0:=c3 0 (by rw [d.cells];omega);rw [Nat.zero_mul] at h0;have ha:(a.add 0).add 0=a:=by simp [Addr.add]
    rw [ha] at h0;have hsome:∃ v,w.cell? a=some v:=by
     rw [h0];exact ⟨_,yC (show 0<cs'.length by rw [c2,d.cells];omega)⟩
    obtain ⟨v,hv⟩:=hsome;obtain ⟨b,off,sp'⟩:=a;have hsp:sp'=none:=by
     unfold World.cell? at hv;simp only [] at hv;split at hv
     ·cases sp' with
      | none=>rfl
      | some z=>simp at hv
     ·cases hv
    subst hsp;have hb:b<w.heap.size:=by
     unfold World.cell? at hv;simp only [] at hv;split at hv
     ·rename_i hh;exact (yn.1 hh).1
     ·cases hv
    obtain ⟨l,⟨l1,lg⟩,l2⟩:=zkw (t:=t) d (b:=b) (off:=off) (len+1) DD Pl 0 (λi hi=>by
     obtain ⟨cs2,q1,q2⟩:=hx i (by omega);exact ⟨cs2,by rw [uk];exact q1,q2⟩)
    refine ⟨l,zhx ?_,lg⟩;simp only [D.rep];refine ⟨_,cap,by rw [yL,l1],by rw [yL,l1];exact hl,.inr ⟨b,off,rfl,λhf=>hf,hb,?_⟩⟩;simpa using l2
 elOK h:=by
  obtain ⟨v,rfl,h1⟩:=zcn h;refine ⟨v,h1,?_⟩;simp only [D.rep] at h1;obtain ⟨a,cap,rfl,-⟩:=h1;rfl
 arg hv h:=by
  obtain ⟨b,len,cap,rfl⟩:=WideShapes.okWide_slice ht hv;obtain ⟨v,hv',h1⟩:=zcn h;obtain rfl:=List.head_eq_of_cons_eq hv';exact h1
structure DecF (P:Program) (off:Nat) (fs:List Field) (α:Type) where
 k:Nat
 flat:α→List D
 good:α→Prop
 opens:∀ {H:Type} {enc:TypeId×Value→H} {w:World} {sp:Nat→Bool} {held:Bool} {fuel:Nat} {cs:List Value},cs.length=off+k →
  (∀ f∈fs,∃ x:DataW H×List MemPlace,DataW.trod enc P w 0 sp held fuel f.type ((cs.drop f.offset).take (P.cellsOf f.type))=some x)→∃ a,D.reps zvV w (flat a) (cs.drop off)∧good a
def fNil {off:Nat}:DecF P off [] Unit where
 k:=0
 flat _:=[]
 good _:=True
 opens hl _:=⟨(),by rw [List.drop_of_length_le (by omega)];simp only [D.reps],trivial⟩
def zuy {α β:Type} {off off':Nat} {f:Field} {fs:List Field} {t:TypeId} (d:Dec P t α) (ht:f.type=t) (ho:f.offset=off) (r:DecF P off' fs β) (hoff:off+d.k=off'):DecF P off (f::fs) (α×β) where
 k:=d.k+r.k
 flat a:=d.flat a.1++r.flat a.2
 good a:=d.good a.1∧r.good a.2
 opens {H enc w sp held fuel cs} hl h:=by
  subst hoff;obtain ⟨x,hx⟩:=h f (by simp);rw [ht,ho,d.cells] at hx;obtain ⟨a,ha,ga⟩:=d.opens hx;obtain ⟨b,hb,gb⟩:=r.opens (by omega) λg hg=>h g (by simp [hg])
  refine ⟨(a,b),?_,ga,gb⟩;have e:cs.drop off=(cs.drop off).take d.k++cs.drop (off+d.k):=by
   rw [← List.drop_drop,uB]
  rw [e];exact zp4 ha hb
def decS {α β:Type} {t:TypeId} {fs:Array Field} (ht:P.underlying t=some (.struct fs)) (F:DecF P 0 fs.toList α) (hc:P.cellsOf t=F.k) (hp:0<F.k) (mk:α→β) (flat:β→List D) (hflat:∀ a,flat (mk a)=F.flat a):Dec P t β where
 k:=F.k
 pos:=hp
 cells:=hc
 flat:=flat
 el b:=.agg (flat b)
 good b:=∃ a,mk a=b∧F.good a
 opens {H enc w sp held fuel cs x} h:=by
  obtain ⟨xs,n,-,-,hl,hsz,hf⟩:=DataW.trod_struct ht h;obtain ⟨a,ha,ga⟩:=F.opens (enc:=enc) (w:=w) (sp:=sp) (held:=held) (fuel:=n) (cs:=cs) (by omega) λf hm=>by
   obtain ⟨i,hi,rfl⟩:=List.mem_iff_getElem.1 hm;have h1:=hf i _ (by rw [← y0];exact yC hi);rw [h1];have hix:i<xs.length:=by rw [hsz,← yt];exact hi
   exact ⟨_,yC hix⟩
  refine ⟨mk a,?_,a,rfl,ga⟩;rw [hflat];simpa using ha
 elOK {w a cs} h:=by
  refine ⟨.agg cs.toArray,?_,rfl⟩;simp only [D.rep];exact ⟨cs.toArray,rfl,by simpa using h⟩
 arg {w r base v a} hv h:=by
  obtain ⟨cs,rfl,-⟩:=WideShapes.okWide_struct ht hv;simp only [D.rep];exact ⟨cs,rfl,h⟩
theorem Dec.zxn {α:Type} {t} (d:Dec P t α) {H:Type} {enc:TypeId×Value→H} {w sp held} {r:Reach} {base v} {dd:DataW H} {ps:List MemPlace} (hv:Value.okWide P w r base t v) (h:DataW.Trod enc P w 0 sp held t v dd ps):∃ a,D.rep zvV w (d.el a) v:=by
 obtain ⟨fuel,hf⟩:=h;obtain ⟨a,ha,-⟩:=d.opens hf;exact ⟨a,d.arg hv ha⟩
variable [Drw]
theorem zjj {H:Type} {enc:TypeId×Value→H} (hl:laidOutB P=true) {W W'} (hb:Fr ze W W') {sp}:∀ {ts:List TypeId} {vs:List Value} {ds:List (DataW H)} {ps:List MemPlace},(∀ t∈ts,P.readableRec t=true∧t<P.types.size)→DataW.TrodAll enc P W 0 (λ_=>true) true ts vs ds ps→(∀ p∈ps,p.block<W.heap.size)→(∀ p∈ps,sp p.block=true)→DataW.TrodAll enc P W' 0 sp true ts vs ds ps
 | [],vs,ds,ps,_,h,_,_=>by
  obtain ⟨rfl,rfl,rfl⟩:=ChangeShapes.trodAll_nil h;exact ChangeShapes.trodAll_mk0
 | t::ts,vs,ds,ps,hr,h,hlt,hs=>by
  obtain ⟨v,vs',d,ds',p,q,rfl,rfl,rfl,h1,h2⟩:=ChangeShapes.trodAll_cons h;refine ⟨p,q,WideElems.Trod_stays hl (hr t (by simp)).1 (hr t (by simp)).2 h1 (λx hx=>?_) (λx hx=>hs x (by simp [hx])),zjj hl hb (λu hu=>hr u (by simp [hu])) h2 (λx hx=>hlt x (by simp [hx])) (λx hx=>hs x (by simp [hx])),rfl⟩;have hx':=hlt x (by simp [hx]);cases x with
  | cell b o=>exact World.cell?_of_block (w:=W) (hb.block b hx' (λh=>h))
  | map b=>exact hb.block b hx' (λh=>h)
theorem zrz {H:Type} {enc:TypeId×Value→H} {f} {s:ChangeSpec} {W W' args v} {ds gs:List (DataW H)} {before:List MemPlace}
  (hW:DataW.Whole enc P f.params.toList s.vars false W args.toList ds gs before) (hvars:s.vars=[]) (hx:(s.fn H (ds++gs)).args=ds) (hy:(s.fn H (ds++gs)).vars=[])
  (hl:laidOutB P=true) (hr:∀ t∈f.params.toList,P.readableRec t=true∧t<P.types.size) (hf:Fr ze W W')
  (hres:∀ (b:Nat) (sp:Nat→Bool) (hd:Bool),DataW.TrodAll enc P W' b sp hd f.resultTypes.toList (v.resultList f.resultTypes.size) (s.fn H (ds++gs)).results []) :
  s.post enc P f false true false false W args v W':=by
 have hb:Below W.heap.size W W':=⟨hf.os,hf.tape,hf.output,hf.size,λk hk=>hf.block k hk λh=>h⟩
 have hlt:∀ p∈before,p.block<W.heap.size:=λp hp=>hW.lt p hp
 obtain ⟨p,q,hA,hV,rfl,-,-⟩:=id hW;rw [hvars] at hV;obtain ⟨rfl,rfl⟩:=ChangeShapes.trodVars_none hV;simp only [y8] at hlt;have hst:∀ sp:Nat→Bool,(∀ x∈p,sp x.block=true)→DataW.TrodAll enc P W' 0 sp true f.params.toList args.toList (s.fn H (ds++[])).args p:=λsp hs=>by
  rw [hx];exact zjj hl hf hr hA hlt hs
 have hvs:∀ sp:Nat→Bool,DataW.TrodVars enc P W' sp s.vars (s.fn H (ds++[])).vars []:=λsp=>by
  rw [hvars,hy];rfl
 exact ⟨ds,[],p++[],[],p,[],hW,hres _ _ _,hst _ (λx hx=>by simpa using hlt x hx),hvs _,hb.frame _,λh=>by cases h⟩
end
noncomputable def dInt:Dec Tryz.prog 3 Int:=ztr Tryz.underlying3 (by kernel_rfl)
noncomputable def dBool:Dec Tryz.prog 4 Bool:=zsO Tryz.underlying4 (by kernel_rfl)
noncomputable def dStr:Dec Tryz.prog 9 (List UInt8):=zts Tryz.underlying9 (by kernel_rfl)
noncomputable def zx6:Dec Tryz.prog 22 (List Int):=zwy dInt Tryz.underlying22 (by kernel_rfl)
noncomputable def dStrs:Dec Tryz.prog 24 (List (List UInt8)):=zwy dStr Tryz.underlying24 (by kernel_rfl)
noncomputable def zto:Dec Tryz.prog 83 Range:=decS (α:=Int×Int×Unit) Tryz.underlying83 (zuy dInt rfl rfl (zuy dInt rfl rfl fNil rfl) rfl) (by kernel_rfl) (by decide) (λx=>⟨x.1,x.2.1⟩) (λx=>[.int x.lo,.int x.hi]) (λ_=>rfl)
noncomputable def dTerm:Dec Tryz.prog 109 Term:=decS (α:=Int×Int×Unit) Tryz.underlying109 (zuy dInt rfl rfl (zuy dInt rfl rfl fNil rfl) rfl) (by kernel_rfl) (by decide) (λx=>⟨x.1,x.2.1⟩) (λx=>[.int x.cell,.int x.ztV]) (λ_=>rfl)
noncomputable def ztq:Dec Tryz.prog 53 (List Term):=zwy dTerm Tryz.underlying53 (by kernel_rfl)
noncomputable def dRow:Dec Tryz.prog 55 Row:=decS (α:=List Term×Int×Unit) Tryz.underlying55 (zuy ztq rfl rfl (zuy dInt rfl rfl fNil rfl) rfl) (by kernel_rfl) (by decide) (λx=>⟨x.1,x.2.1⟩) (λx=>[.sl 2 (x.ztP.map Term.enc),.int x.bound]) (λ_=>rfl)
noncomputable def ztp:Dec Tryz.prog 107 Table:=decS (α:=List UInt8×Int×List Int×Range×Int×Unit) Tryz.underlying107 (zuy dStr rfl rfl (zuy dInt rfl rfl (zuy zx6 rfl rfl (zuy zto rfl rfl (zuy dInt rfl rfl fNil rfl) rfl) rfl) rfl) rfl) (by kernel_rfl) (by decide) (λx=>⟨x.1,x.2.1,x.2.2.1,x.2.2.2.1,x.2.2.2.2.1⟩) (λx=>[.str x.name,.int x.kind,.sl 1 (x.ztK.map D.int),.int x.range.lo,.int x.range.hi,.int x.first]) (λ_=>rfl)
noncomputable def zsL:Dec Tryz.prog 23 (List Table):=zwy ztp Tryz.underlying23 (by kernel_rfl)
noncomputable def dCon:Dec Tryz.prog 57 Constraint:=decS (α:=Int×Int×Row×Int×Int×Unit) Tryz.underlying57 (zuy dInt rfl rfl (zuy dInt rfl rfl (zuy dRow rfl rfl (zuy dInt rfl rfl (zuy dInt rfl rfl fNil rfl) rfl) rfl) rfl) rfl) (by kernel_rfl) (by decide) (λx=>⟨x.1,x.2.1,x.2.2.1,x.2.2.2.1,x.2.2.2.2.1⟩) (λx=>[.int x.kind,.int x.family,.sl 2 (x.row.ztP.map Term.enc),.int x.row.bound,.int x.first,.int x.size]) (λ_=>rfl)
noncomputable def dCons:Dec Tryz.prog 25 (List Constraint):=zwy dCon Tryz.underlying25 (by kernel_rfl)
noncomputable def dOper:Dec Tryz.prog 111 zul:=decS (α:=List UInt8×Bool×List Int×Unit) Tryz.underlying111 (zuy dStr rfl rfl (zuy dBool rfl rfl (zuy zx6 rfl rfl fNil rfl) rfl) rfl) (by kernel_rfl) (by decide) (λx=>⟨x.1,x.2.1,x.2.2.1⟩) (λx=>[.str x.name,.bool x.ordered,.sl 1 (x.ztR.map D.int)]) (λ_=>rfl)
noncomputable def ztm:Dec Tryz.prog 26 (List zul):=zwy dOper Tryz.underlying26 (by kernel_rfl)
noncomputable def zsJ:Dec Tryz.prog 113 Change:=decS (α:=Int×Int×Unit) Tryz.underlying113 (zuy dInt rfl rfl (zuy dInt rfl rfl fNil rfl) rfl) (by kernel_rfl) (by decide) (λx=>⟨x.1,x.2.1⟩) (λx=>[.int x.cell,.int x.add]) (λ_=>rfl)
noncomputable def zr0:Dec Tryz.prog 73 (List Change):=zwy zsJ Tryz.underlying73 (by kernel_rfl)
noncomputable def dRows:Dec Tryz.prog 74 (List Row):=zwy dRow Tryz.underlying74 (by kernel_rfl)
noncomputable def zsN:Dec Tryz.prog 243 zvd:=decS (α:=Int×Int×Int×Unit) Tryz.underlying243 (zuy dInt rfl rfl (zuy dInt rfl rfl (zuy dInt rfl rfl fNil rfl) rfl) rfl) (by kernel_rfl) (by decide) (λx=>⟨x.1,x.2.1,x.2.2.1⟩) (λx=>[.int x.kind,.int x.cell,.int x.value]) (λ_=>rfl)
noncomputable def zr1:Dec Tryz.prog 75 (List zvd):=zwy zsN Tryz.underlying75 (by kernel_rfl)
noncomputable def zsK:Dec Tryz.prog 77 zur:=decS (α:=List Change×List Row×List zvd×Unit) Tryz.underlying77 (zuy zr0 rfl rfl (zuy dRows rfl rfl (zuy zr1 rfl rfl fNil rfl) rfl) rfl) (by kernel_rfl) (by decide) (λx=>⟨x.1,x.2.1,x.2.2.1⟩) (λx=>[.sl 2 (x.delta.map Change.enc),.sl 2 (x.hold.map Row.enc),.sl 3 (x.ztU.map zvd.enc)]) (λ_=>rfl)
noncomputable def zsI:Dec Tryz.prog 79 Action:=decS (α:=Int×List Int×zur×Unit) Tryz.underlying79 (zuy dInt rfl rfl (zuy zx6 rfl rfl (zuy zsK rfl rfl fNil rfl) rfl) rfl) (by kernel_rfl) (by decide) (λx=>⟨x.1,x.2.1,x.2.2.1⟩) (λx=>[.int x.operation,.sl 1 (x.arguments.map D.int),.sl 2 (x.effect.delta.map Change.enc),.sl 2 (x.effect.hold.map Row.enc),.sl 3 (x.effect.ztU.map zvd.enc)]) (λ_=>rfl)
noncomputable def zrZ:Dec Tryz.prog 27 (List Action):=zwy zsI Tryz.underlying27 (by kernel_rfl)
noncomputable def dHide:Dec Tryz.prog 202 Hide:=decS (α:=Int×Int×Int×Unit) Tryz.underlying202 (zuy dInt rfl rfl (zuy dInt rfl rfl (zuy dInt rfl rfl fNil rfl) rfl) rfl) (by kernel_rfl) (by decide) (λx=>⟨x.1,x.2.1,x.2.2.1⟩) (λx=>[.int x.table,.int x.column,.int x.to]) (λ_=>rfl)
noncomputable def ztk:Dec Tryz.prog 28 (List Hide):=zwy dHide Tryz.underlying28 (by kernel_rfl)
noncomputable def ztl:Dec Tryz.prog 30 Model:=decS (α:=List Int×List Table×List (List UInt8)×List Constraint×List zul×List Action×List Hide×Unit) Tryz.underlying30 (zuy zx6 rfl rfl (zuy zsL rfl rfl (zuy dStrs rfl rfl (zuy dCons rfl rfl (zuy ztm rfl rfl (zuy zrZ rfl rfl (zuy ztk rfl rfl fNil rfl) rfl) rfl) rfl) rfl) rfl) rfl) (by kernel_rfl) (by decide) (λx=>⟨x.1,x.2.1,x.2.2.1,x.2.2.2.1,x.2.2.2.2.1,x.2.2.2.2.2.1,x.2.2.2.2.2.2.1⟩) (λx=>[.sl 1 (x.ztR.map D.int),.sl 6 (x.tables.map Table.enc),.sl 1 (x.ztX.map D.str),.sl 6 (x.constraints.map Constraint.enc),.sl 3 (x.ztN.map zul.enc),.sl 5 (x.ztL.map Action.enc),.sl 3 (x.zt3.map Hide.enc)]) (λ_=>rfl)
noncomputable def zsM:Dec Tryz.prog 32 Target:=decS (α:=Bool×Int×Unit) Tryz.underlying32 (zuy dBool rfl rfl (zuy dInt rfl rfl fNil rfl) rfl) (by kernel_rfl) (by decide) (λx=>⟨x.1,x.2.1⟩) (λx=>[.bool x.hold,.int x.index]) (λ_=>rfl)
noncomputable def ztn:Dec Tryz.prog 34 Question:=decS (α:=Int×Int×Target×Unit) Tryz.underlying34 (zuy dInt rfl rfl (zuy dInt rfl rfl (zuy zsM rfl rfl fNil rfl) rfl) rfl) (by kernel_rfl) (by decide) (λx=>⟨x.1,x.2.1,x.2.2.1⟩) (λx=>[.int x.e,.int x.f,.bool x.target.hold,.int x.target.index]) (λ_=>rfl)
theorem type0:(((begin Tryz.prog (λ_ _=>0) default).world.heap[0]?).bind Obj.row?).map (·.2)=some 336:=by kernel_rfl
theorem zsQ {W:World} (hL:laidMetH Tryz.prog Rows.pairDecidesRow.laid W) (hS:W.ShapedOpen Tryz.prog):zdo zvV W:=by
 intro p hp;have e:p=(0,Obj.cells (tab0.map (Value.int .u8)).toArray 336 (0,0)):=by simpa [ztS.gs] using hp
 subst e;refine ⟨λh=>h,?_⟩;rw [MakeChecks.laidMetH_plain _ _ _ (by kernel_rfl)] at hL;have e:(Rows.laid_strings_asciiSpace:DataW Unit)=Lib.tabData .u8 tab0:=by kernel_rfl
 have hT : laidMet Tryz.prog [("strings.asciiSpace", Lib.tabData .u8 tab0)] W := by rw [← e]; exact hL.tail
 have ht : Lib.TabIs Tryz.prog W "strings.asciiSpace" .u8 tab0 := Lib.tabIs_of_head (g := 0) (t := 336) (e := 5) (n := 256) (by kernel_rfl) (by kernel_rfl) Tryz.underlying336 Tryz.underlying5 (by kernel_rfl) (by kernel_rfl) hT;obtain ⟨⟨zero, t⟩, hz, rfl⟩ := Option.map_eq_some_iff.1 type0;obtain ⟨cs, hcs, -, -⟩ := hS.1 0 zero 336 (by rw [show Tryz.prog.globals.size = 4 by kernel_rfl]; decide) hz;have hv := ht;unfold Lib.TabIs World.var? at hv;rw [show Tryz.prog.globalNamed "strings.asciiSpace" = some 0 by kernel_rfl] at hv;simp only [ya, hcs, yj] at hv;rw [hcs, hv]
section
open Go Go.RowKit Go.Proofs
theorem Y271:zZ Tryz.prog 271=some (some 4):=by kernel_rfl
def tokL : List Oper := [{ dst := some 84, op := Op.move (Operand.tmp 0), type := 331, pos := "lexer.go:103", after := #[], guard := none }, { dst := some 85, op := Op.load 271 (Operand.tmp 5), type := 271, pos := "lexer.go:103", after := #[], guard := none }, { dst := some 86, op := Op.call { callee := Callee.value (Operand.tmp 84), args := #[Operand.tmp 85], argTypes := #[271] }, type := 4, pos := "lexer.go:103", after := #[{ on := 0, ground := Ground.data }, { on := 1, ground := Ground.data }], guard := none }, { dst := some 87, op := Op.unOp UnOp.not 4 (Operand.tmp 86), type := 4, pos := "lexer.go:103", after := #[{ on := 2, ground := Ground.data }], guard := none }, { dst := some 88, op := Op.move (Operand.tmp 87), type := 4, pos := "lexer.go:103", after := #[{ on := 3, ground := Ground.data }, { on := 2, ground := Ground.chain }], guard := none }, { dst := some 89, op := Op.fieldAddr 271 (Operand.tmp 5) 0, type := 0, pos := "lexer.go:103", after := #[{ on := 4, ground := Ground.guard }], guard := some (4, false) }, { dst := some 90, op := Op.load 3 (Operand.tmp 89), type := 3, pos := "lexer.go:103", after := #[{ on := 5, ground := Ground.data }, { on := 4, ground := Ground.guard }], guard := some (4, false) }, { dst := some 91, op := Op.binOp BinOp.eql 3 (Operand.tmp 90) (Operand.const (Value.int IntKind.i64 0)) 3, type := 4, pos := "lexer.go:103", after := #[{ on := 6, ground := Ground.data }, { on := 4, ground := Ground.guard }], guard := some (4, false) }, { dst := some 92, op := Op.pick (Operand.tmp 88) (Operand.const (Value.bool true)) (Operand.tmp 91), type := 4, pos := "lexer.go:103", after := #[{ on := 4, ground := Ground.data }, { on := 7, ground := Ground.data }], guard := none }]
def tokX:Code:=.seq (.region 19 tokL.toArray false) (.cond (.tmp 92) .ret .skip)
theorem R.reCtx {C C':Ctx} (h1:C'.A0=C.A0) (h2:C'.own0=C.own0) (h3:C'.w0=C.w0) (h4:C'.n=C.n) (h5:C'.gh=C.gh) (h6:C'.gn=C.gn) (h7:C'.df=C.df) {bs:List (Option Nat)} {s:St} {a:Act} {w:World} (h:R C bs s a w):R C' bs s a w:=by
 obtain ⟨A0,own0,w0,n,esc,gh,gn,df⟩:=C
 obtain ⟨A1,own1,w1,n1,esc1,gh1,gn1,df1⟩:=C'
 simp only at h1 h2 h3 h4 h5 h6 h7
 subst h1;subst h2;subst h3;subst h4;subst h5;subst h6;subst h7
 exact ⟨h.own,h.len,h.blk,h.tmp,h.defers,h.size,h.fr,h.new,h.gh⟩
theorem R.noEsc {A0 own0:Nat→Prop} {w0:World} {n:Nat} {esc esc':Act→World→Prop} {bs:List (Option Nat)} {s:St} {a:Act} {w:World} (h:R ⟨A0,own0,w0,n,esc,[],0,[]⟩ bs s a w):R ⟨A0,own0,w0,n,esc',[],0,[]⟩ bs s a w:=
 ⟨h.own,h.len,h.blk,h.tmp,h.defers,h.size,h.fr,h.new,h.gh⟩
theorem zsm {A:Nat→Prop} {w0:World} {Post:World→Prop} (l:Nat) (tok:Token)
  (hround:∀ (W:World) (v:Value),Fr ze w0 W→D.rep A W tok.enc v→∃ fn tm asg bd,(Instr.yield l #[v]).run Tryz.prog W = .ok (.round l fn tm asg bd) W∧RoundIn Fence.wide 0 Tryz.prog l fn tm asg bd W (λe W'=>e = .returned (.bool false)∧Post W'))
  (Q:Exit→St→Prop) (T:List (Nat×V)) (H:List Blk) (j:Nat) (h0:look 0 T=some (.d (.fn (.yield l) [] []))) (h5:look 5 T=some (.loc j 0)) (hj:H[j]? = some (.box 271 (V.zuB (.d tok.enc)))) :
  Tri Tryz.prog ⟨A,ze,w0,93,λa W'=>a.defers=[]∧Post W',[],0,[]⟩ tokX Q ⟨T,H⟩:=by
 refine ⟨λbs a w hR=>(wpIn_wide (n:=1)).1 ?_⟩
 unfold tokX
 refine wpIn_seq (wpIn_region_lit ?_)
 have hR':R ⟨A,ze,w0,93,λ_ _=>False,[],0,[]⟩ bs ⟨T,H⟩ a w:=R.reCtx (C:=⟨A,ze,w0,93,λa W'=>a.defers=[]∧Post W',[],0,[]⟩) (C':=⟨A,ze,w0,93,λ_ _=>False,[],0,[]⟩) rfl rfl rfl rfl rfl rfl rfl hR
 have hpre:TriL Tryz.prog ⟨A,ze,w0,93,λ_ _=>False,[],0,[]⟩ tokL.toArray (tokL.take 2) (λe s=>e = .normal∧look 84 s.T=some (.d (.fn (.yield l) [] []))∧look 85 s.T=some (.d tok.enc)) ⟨T,H⟩:=by
  refine .op rfl rfl (.move rfl h0) ?_
  refine .op rfl rfl (.zue rfl h5 hj Y271 (yf rfl) (v:=.d tok.enc) rfl) ?_
  exact .nil ⟨rfl,rfl,rfl⟩
 refine zhm (pre:=tokL.take 2) (post:=tokL.drop 2) (Q0:=QR _ _) ?_ ?_ a w (hpre.run bs a w hR')
 ·rintro e a w (⟨_,_,⟨h,_⟩,_⟩ | ⟨_,h⟩)
  ·exact h
  ·exact h.elim
 rintro a1 w1 (⟨bs1,s1,⟨_,g1,g2⟩,hR1⟩ | ⟨h,_⟩)
 case inr=>cases h
 have e84:=hR1.ev (x:=.tmp 84) (by simpa [ev] using g1)
 have e85:=hR1.ev (x:=.tmp 85) (by simpa [ev] using g2)
 simp only [V.rep,D.rep] at e84
 obtain ⟨vs,us,e84,e1,e2⟩:=e84
 simp only [D.reps] at e1 e2
 have e1:vs = #[]:=by simpa using e1
 have e2:us = #[]:=by simpa using e2
 subst e1;subst e2
 simp only [V.rep] at e85
 obtain ⟨fn,tm,asg,bd,hy,hr⟩:=hround w1 _ hR1.fr (D.zwt rfl e85)
 have hsz:a1.tmps.size=93:=hR1.size
 have hdf:=hR1.defers
 simp only [tokL,List.drop]
 refine wpListIn_plain rfl λK hK=>⟨λ_ _=>trivial,?_⟩
 have hx:∀ (o:Oper),o.op = .call { callee:=.value (.tmp 84),args:=#[.tmp 85],argTypes:=#[271] }→(execOp a1.eval o).run Tryz.prog w1 = .ok (.round l fn tm asg bd) w1:=λo ho=>by
  simp [execOp,ho,resolve,e84,Deferred.ofValue,invoke,hy]
 have hsm:∀ ρ o,Oper.semAt Fence.wide.round ρ o=execOp ρ o:=λ_ _=>rfl
 rw [hsm,hx _ rfl,Oper.uponIn_round]
 refine ⟨λh=>by simp [Fence.wide] at h,hr.mono ?_⟩
 rintro e W' ⟨rfl,hp⟩
 refine hK _ _ ?_
 obtain ⟨a2,ha2⟩:∃ a2,a1.put (some 86) (.bool false)=a2:=⟨_,rfl⟩
 have z2:a2.tmps.size=93∧a2.defers=[]∧a2.tmps[86]? = some (.bool false):=by subst ha2;exact ⟨by simp [Act.put,hsz],hdf,by simp [Act.put,hsz]⟩
 simp only [ha2]
 clear ha2 hK K
 refine wpListIn_plain rfl λK hK=>⟨λ_ _=>trivial,?_⟩
 rw [hsm]
 have x87:∀ (o:Oper),o.op = .unOp .not 4 (.tmp 86)→(execOp a2.eval o).run Tryz.prog W' = .ok (.value (.bool true)) W':=λo ho=>by simp [execOp,ho,Op.unary,Act.eval,z2.2.2]
 rw [x87 _ rfl]
 refine hK _ _ ?_
 obtain ⟨a3,ha3⟩:∃ a3,a2.put (some 87) (.bool true)=a3:=⟨_,rfl⟩
 have z3:a3.tmps.size=93∧a3.defers=[]∧a3.tmps[87]? = some (.bool true):=by subst ha3;exact ⟨by simp [Act.put,z2.1],z2.2.1,by simp [Act.put,z2.1]⟩
 simp only [ha3]
 clear ha3 hK K
 refine wpListIn_plain rfl λK hK=>⟨λ_ _=>trivial,?_⟩
 rw [hsm]
 have x88:∀ (o:Oper),o.op = .move (.tmp 87)→(execOp a3.eval o).run Tryz.prog W' = .ok (.value (.bool true)) W':=λo ho=>by simp [execOp,ho,Act.eval,z3.2.2]
 rw [x88 _ rfl]
 refine hK _ _ ?_
 obtain ⟨a4,ha4⟩:∃ a4,a3.put (some 88) (.bool true)=a4:=⟨_,rfl⟩
 have z4:a4.tmps.size=93∧a4.defers=[]∧a4.tmps[88]? = some (.bool true):=by subst ha4;exact ⟨by simp [Act.put,z3.1],z3.2.1,by simp [Act.put,z3.1]⟩
 simp only [ha4]
 clear ha4 hK K
 have hw:∀ (a:Act) (o:Oper),o.guard=some (4,false)→a.tmps[88]? = some (.bool true)→Region.wanted o (yielded tokL.toArray a.tmps)=false:=λa o ho ha=>by
  simp [Region.wanted,ho,yielded,tokL,ha]
 simp only [tokL] at hw
 refine wpListIn_skip (hw a4 _ rfl z4.2.2) rfl ?_
 obtain ⟨a5,ha5⟩:∃ a5,a4.put (some 89) undef=a5:=⟨_,rfl⟩
 have z5:a5.tmps.size=93∧a5.defers=[]∧a5.tmps[88]? = some (.bool true):=by subst ha5;exact ⟨by simp [Act.put,z4.1],z4.2.1,by simp [Act.put,z4.2.2]⟩
 simp only [ha5]
 refine wpListIn_skip (hw a5 _ rfl z5.2.2) rfl ?_
 obtain ⟨a6,ha6⟩:∃ a6,a5.put (some 90) undef=a6:=⟨_,rfl⟩
 have z6:a6.tmps.size=93∧a6.defers=[]∧a6.tmps[88]? = some (.bool true):=by subst ha6;exact ⟨by simp [Act.put,z5.1],z5.2.1,by simp [Act.put,z5.2.2]⟩
 simp only [ha6]
 refine wpListIn_skip (hw a6 _ rfl z6.2.2) rfl ?_
 obtain ⟨a7,ha7⟩:∃ a7,a6.put (some 91) undef=a7:=⟨_,rfl⟩
 have z7:a7.tmps.size=93∧a7.defers=[]∧a7.tmps[88]? = some (.bool true):=by subst ha7;exact ⟨by simp [Act.put,z6.1],z6.2.1,by simp [Act.put,z6.2.2]⟩
 simp only [ha7]
 clear ha5 ha6 ha7
 refine wpListIn_plain rfl λK hK=>⟨λ_ _=>trivial,?_⟩
 rw [hsm]
 have x92:∀ (o:Oper),o.op = .pick (.tmp 88) (.const (.bool true)) (.tmp 91)→(execOp a7.eval o).run Tryz.prog W' = .ok (.value (.bool true)) W':=λo ho=>by simp [execOp,ho,asBool,Act.eval,z7.2.2]
 rw [x92 _ rfl]
 refine hK _ _ ?_
 obtain ⟨a8,ha8⟩:∃ a8,a7.put (some 92) (.bool true)=a8:=⟨_,rfl⟩
 have z8:a8.defers=[]∧a8.tmps[92]? = some (.bool true):=by subst ha8;exact ⟨z7.2.1,by simp [Act.put,z7.1]⟩
 simp only [ha8]
 refine wpListIn_nil ?_
 simp only [Exit.then]
 refine wpIn_cond (t:=true) (by simp [Act.eval,z8.2]) ?_
 exact wpIn_ret (.inr ⟨rfl,z8.1,hp⟩)
end
abbrev Ctx.ne (C:Ctx):Ctx:=⟨C.A0,C.own0,C.w0,C.n,λ_ _=>False,C.gh,C.gn,C.df⟩
theorem R.esc [ztS] [Drw] {C:Ctx} {bs s a w} {E:Act→World→Prop} (h:R C bs s a w):R ⟨C.A0,C.own0,C.w0,C.n,E,C.gh,C.gn,C.df⟩ bs s a w:=by
 obtain ⟨q1,q2,q3,q4,q5,q6,q7,q8,q9⟩:=h;exact ⟨q1,q2,q3,q4,q5,q6,q7,q8,q9⟩
theorem R.unesc [ztS] [Drw] {C:Ctx} {bs s a w} (h:R C.ne bs s a w):R C bs s a w:=by
 obtain ⟨q1,q2,q3,q4,q5,q6,q7,q8,q9⟩:=h;exact ⟨q1,q2,q3,q4,q5,q6,q7,q8,q9⟩
structure TriR [ztS] [Drw] (l:Nat) (P:Program) (C:Ctx) (c:Code) (Q:Exit→St→Prop) (s:St):Prop where
 run:∀ bs a w,R C bs s a w→c.wpIn (Fence.wide.inRound l) 0 P (QR C.ne Q) a w
section
variable [ztS] [Drw] {l:Nat} {P:Program} {C:Ctx} {Q:Exit→St→Prop} {s:St}
theorem TriR.region {id:Nat} {ops:List Oper} (hd:(ops.all zdY)=true) (h:TriL P C.ne ops.toArray ops (λe s=>e = .normal∧Q .normal s) s):TriR l P C (.region id ops.toArray false) Q s:=by
 refine ⟨λbs a w hR=>wpIn_region_lit ?_⟩;refine ze8 (F:=Fence.wide.inRound l) (.inr ⟨l,rfl⟩) (Q0:=QR C.ne (λe s=>e = .normal∧Q .normal s)) ?_ ?_ ops _ _ hd (h.run _ _ _ hR.esc)
 ·rintro e a w (⟨_,_,⟨h,_⟩,_⟩ | ⟨_,h⟩)
  ·exact h
  ·exact h.elim
 ·rintro a w (⟨bs',s',⟨_,hq⟩,hR'⟩ | ⟨_,h⟩)
  ·exact .inl ⟨bs',s',hq,hR'⟩
  ·exact h.elim
theorem TriR.seq {x y:Code} (h:TriR l P C x (λe s=>e = .normal∧TriR l P C y Q s) s):TriR l P C (.seq x y) Q s:=by
 refine ⟨λbs a w hR=>wpIn_seq (wpIn_mono (h.run bs a w hR) ?_)⟩;rintro e a w (⟨bs',s',⟨rfl,hy⟩,hR'⟩ | ⟨_,h⟩)
 ·exact hy.run bs' a w hR'.unesc
 ·exact h.elim
theorem TriR.cond {c:Operand} {x y:Code} {t:Bool} (hc:ev s.T c=some (.d (.bool t))) (h:TriR l P C (if t then x else y) Q s):TriR l P C (.cond c x y) Q s:=by
 refine ⟨λbs a w hR=>wpIn_cond (t:=t) ?_ (h.run bs a w hR)⟩;exact zr.1 (hR.ev hc)
theorem TriR.skip (h:Q .normal s):TriR l P C .skip Q s:=⟨λbs a w hR=>wpIn_skip (.inl ⟨bs,s,h,hR.esc⟩)⟩
theorem TriR.ret (h:Q .ret s):TriR l P C .ret Q s:=⟨λbs a w hR=>wpIn_ret (.inl ⟨bs,s,h,hR.esc⟩)⟩
theorem TriR.block {id:Nat} {c:Code} (h:TriR l P C c (λe s=>(e = .normal∨e = .ret)∧Q e s) s):TriR l P C (.block id c) Q s:=by
 refine ⟨λbs a w hR=>wpIn_block (wpIn_mono (h.run bs a w hR) ?_)⟩;rintro e a w (⟨bs',s',⟨he,hq⟩,hR'⟩ | ⟨_,h⟩)
 ·rcases he with rfl | rfl
  ·exact .inl ⟨bs',s',hq,hR'⟩
  ·exact .inl ⟨bs',s',hq,hR'⟩
 ·exact h.elim
end
structure OneX (G2:ztS) (D0:Drw) (C:Ctx) (G3:ztS) (C3:Ctx) (P:Program) (ops:Array Oper) (o:Oper) (s s':St):Prop where
 run:∀ bs a w,@R G2 D0 C bs s a w→∀ (Q:Exit→Act→World→Prop) (i:Nat) (K:Act→World→Prop),ops[i]? = some o→(∀ a w,(∃ bs,@R G3 D0 C3 bs s' a w)→K a w)→wpOpIn Fence.wide 0 P ops Q i K a w
theorem OneX.of {G:ztS} {D0:Drw} {P:Program} {C:Ctx} {ops:Array Oper} {o:Oper} {s s':St} (h : @OneI G D0 P C ops o s s'):OneX G D0 C G C P ops o s s':=⟨@OneI.run G D0 _ _ _ _ _ _ h⟩
structure TriW (G:ztS) (D0:Drw) (P:Program) (C:Ctx) (ops:Array Oper) (l:List Oper) (Q:Exit→Act→World→Prop) (s:St):Prop where
 run:∀ bs a w,@R G D0 C bs s a w→wpListIn Fence.wide 0 P ops Q l a w
theorem TriW.one {G2 G3:ztS} {D0:Drw} {P:Program} {C C3:Ctx} {ops:Array Oper} {o:Oper} {l:List Oper} {Q:Exit→Act→World→Prop} {s s':St} (i:Nat) (hi:ops[i]? = some o) (h:OneX G2 D0 C G3 C3 P ops o s s') (k:TriW G3 D0 P C3 ops l Q s'):TriW G2 D0 P C ops (o::l) Q s:=by
 refine ⟨λbs a w hR=>?_⟩;have:=h.run bs a w hR Q i (wpListIn Fence.wide 0 P ops Q l) hi λa w ⟨bs',hR'⟩=>k.run bs' a w hR'
 unfold wpOpIn at this;simp only [hi] at this;unfold wpListIn;exact this
theorem TriW.op {G:ztS} {D0:Drw} {P:Program} {C:Ctx} {ops:Array Oper} {o:Oper} {l:List Oper} {Q:Exit→Act→World→Prop} {s s':St} (i:Nat) (hi:ops[i]? = some o) (hd:zdY o=true) (h : @TriL G D0 P C ops [o] (zwc s') s) (k:TriW G D0 P C ops l Q s'):TriW G D0 P C ops (o::l) Q s:=
 .one i hi (.of (@OneI.of G D0 _ _ _ _ _ _ hd h)) k
theorem TriW.nil {G2 G3:ztS} {D0:Drw} {P:Program} {C C3:Ctx} {ops:Array Oper} {c:Code} {Q Q3:Exit→St→Prop} {s:St} (h : @Tri G3 D0 P C3 c Q3 s) (hQ:∀ e a w,@QR G3 D0 C3 Q3 e a w→@QR G2 D0 C Q e a w):TriW G3 D0 P C3.ne ops [] (Exit.then (c.wp P (@QR G2 D0 C Q)) (@QR G2 D0 C Q)) s:=
 ⟨λbs a w hR=>Code.wp_mono hQ (@Tri.run G3 D0 _ _ _ _ _ h bs a w (@R.unesc G3 D0 _ _ _ _ _ hR))⟩
theorem Tri.regW {G2:ztS} {D0:Drw} {P:Program} {C:Ctx} {id:Nat} {l:List Oper} {c:Code} {Q:Exit→St→Prop} {s:St} (h:TriW G2 D0 P C.ne l.toArray l (Exit.then (c.wp P (@QR G2 D0 C Q)) (@QR G2 D0 C Q)) s) : @Tri G2 D0 P C (.seq (.region id l.toArray false) c) Q s:=
 @Tri.mk G2 D0 _ _ _ _ _ λbs a w hR=>wp_seq ((wpIn_wide (n:=0)).1 (wpIn_region_lit (h.run bs a w (@R.esc G2 D0 _ _ _ _ _ _ hR))))
structure TriX (G2:ztS) (D0:Drw) (C:Ctx) (G3:ztS) (P:Program) (c:Code) (Q:Exit→St→Prop) (s:St):Prop where
 run:∀ bs a w,@R G2 D0 C bs s a w→c.wp P (λe a' w'=>∃ bs' s',Q e s'∧@R G3 D0 C bs' s' a' w') a w
def escX (G3:ztS) (D0:Drw) (C:Ctx) (Q:Exit→St→Prop) (a:Act) (w:World):Prop:=∃ bs s,Q .ret s∧@R G3 D0 C.ne bs s a w
theorem OneX.call {G2 G3:ztS} {D0:Drw} {P:Program} {C:Ctx} {ops:Array Oper} {o:Oper} {T:List (Nat×V)} {H H':List Blk} {f:FuncId} {fn:Func} {c:Code} {xs:List V} {N:Nat} {rs:List ResultVar} {r:Bool}
  (hw : @zv6 G2 D0 C ops o ⟨T,H⟩ true) (hd:zup o.dst C.n=true) (hc:zvx P o (ev T) f xs) (hf:P.funcs[f]? = some fn) (hb:fn.body=some c) (hN:fn.ntmps=N) (hrs:fn.results=rs.toArray) (hn:Nat.ble xs.length N=true)
  (hu:(T.all λp=>p.2.under H.length)=true) (hgn:Nat.ble C.gn H.length=true) (hH':(H'.all (Blk.under H'.length))=true) (hu':(T.all λp=>p.2.under H'.length)=true) (hgn':Nat.ble C.gn H'.length=true) (hT:Sub T T)
  (h:∀ (own0:Nat→Prop) (w:World) (gh:List (V×Value)),(∀ b,C.own0 b→own0 b)→(∀ p∈C.gh,p∈gh)→TriX G2 D0 ⟨C.A0,own0,w,N,λ_ _=>False,gh,H.length,[]⟩ G3 P c (retV rs λv H2=>v = .d (.bool r)∧∃ X,H2=H'++X) ⟨zbQ 0 xs,H⟩) :
  OneX G2 D0 C G3 C P ops o ⟨T,H⟩ ((⟨T,H'⟩:St).put o.dst (.d (.bool r))):=by
 subst hN;have hgn:=yf hgn;have hn:=yf hn;refine ⟨λbs a w hR Q i K hi hK=>?_⟩;have hwant:=@zv6.run G2 D0 _ _ _ _ _ hw bs a w hR;obtain ⟨vs,hrun,hvs⟩:=hc.run (Own C.A0 bs) w bs H a.eval (λx _ y hx=>@R.ev G2 D0 _ _ _ _ _ hR _ _ hx) (λ_=>rfl);have hlen:=V.zu3 hvs;simp only [yt] at hlen;have h0:=h (λb=>C.own0 b∨some b∈bs) w (C.gh++vals a T T) (λb hb=>.inl hb) λp hp=>List.mem_append_left _ hp
 obtain ⟨rown,rlen,rblk,rtmp,rdef,rsz,rfr,rnew,rgh⟩:=hR;have hR0 : @R G2 D0 ⟨C.A0,λb=>C.own0 b∨some b∈bs,w,fn.ntmps,λ_ _=>False,C.gh++vals a T T,H.length,[]⟩ bs ⟨zbQ 0 xs,H⟩ { tmps:=vs++Array.replicate (fn.ntmps - vs.size) undef,defers:=[] } w:=by
  have hsz:(vs++Array.replicate (fn.ntmps - vs.size) undef).size=fn.ntmps:=by simp;omega
  refine @R.mk G2 D0 _ _ _ _ _ rown rlen rblk (λt v hv=>?_) rfl hsz (Fr.refl _ _) (λb hb=>.inl (.inr hb)) (λp hp=>?_)
  ·have:=zcR xs 0 vs.toList (vs++Array.replicate (fn.ntmps - vs.size) undef) hvs
    (λj hj=>by
     have hj':j<vs.size:=by simpa using hj
     simp [yN,Array.getElem?_append,hj',List.getD])
    (by rw [hsz];simp;omega) t v hv
   rw [hsz] at this;exact this
  ·rcases yr.1 hp with hp | hp
   ·exact ⟨V.zu4 hgn _ (rgh p hp).1,(rgh p hp).2⟩
   ·obtain ⟨t,h1,h2⟩:=zd8 hp;exact ⟨zdr hu h1,by rw [h2];exact (rtmp t _ h1).2⟩
 unfold wpOpIn;simp only [hi,hwant,if_true];refine ⟨λ_ _=>trivial,?_⟩;rw [show (o.semAt Fence.wide.round a.eval)=execOp a.eval o from rfl,hrun,Oper.uponIn_enter];refine ⟨λh=>by simp [Fence.wide] at h,?_⟩;refine callsIn_wide.2 (calls_of_wp hf hb (Code.wp_mono ?_ (h0.run bs _ w hR0)));rintro e a' w' ⟨bs',s',⟨he,ys,hres,hv,X,hX⟩,hR'⟩;obtain ⟨u,hu1,hu2⟩:=@znI G3 D0 P _ _ _ _ _ fn _ hR' (by rw [hrs];exact hres);obtain ⟨sown,slen,sblk,stmp,sdef,ssz,sfr,snew,sgh⟩:=hR';have hRC : @R G3 D0 C bs' ⟨T,s'.H⟩ a w':=by
  have f1:Fr (λb=>C.own0 b∨some b∈bs) w w':=sfr;refine @R.mk G3 D0 _ _ _ _ _ sown slen sblk (λt v hv=>⟨(rtmp t v hv).1,(sgh _ (List.mem_append_right _ (zdG hv hv))).2⟩) rdef rsz ?_ (λb hb=>?_) λp hp=>⟨(rgh p hp).1,(sgh p (List.mem_append_left _ hp)).2⟩
  ·refine ⟨f1.os.trans rfr.os,f1.tape.trans rfr.tape,f1.output.trans rfr.output,yJ rfr.size f1.size,λq hq hno=>?_,λd=>yJ (rfr.drawn d) (f1.drawn d)⟩;refine (f1.block q (yD hq rfr.size) λe=>?_).trans (rfr.block q hq hno);rcases e with e | e
   ·exact hno e
   ·rcases rnew q e with e | e
    ·exact hno e
    ·omega
  ·rcases snew b hb with (h1 | h1) | h1
   ·exact .inl h1
   ·exact rnew b h1
   ·exact .inr (yJ rfr.size h1)
 obtain ⟨bs2,hR2⟩:=@R.ge G3 D0 _ _ _ ⟨T,H'⟩ _ _ hRC ⟨X,hX,hH',hu',hT⟩ hgn';have hu3:u = .bool r:=by
  rw [hv] at hu2;exact zr.1 hu2
 have hfin:K (a.put o.dst u) w':=hK _ _ ⟨bs2,@R.put G3 D0 _ _ _ _ _ _ hR2 (Fr.refl _ _) o.dst hd (.d (.bool r)) u (zr.2 hu3)⟩;rcases he with rfl | rfl
 ·exact ⟨sdef,u,hu1,hfin⟩
 ·exact ⟨sdef,u,hu1,hfin⟩
def recB (left:Bool) (rec:Loop):Loop:=if left=true then { rec with state:=.done,pending:=some .ret } else rec
theorem OneX.yield {G1 G2 G3:ztS} {D0:Drw} {l:Nat} {rec:Loop} {P:Program} {C:Ctx} {ops:Array Oper} {o:Oper} {T:List (Nat×V)} {H H':List Blk} {x y1 y2:Operand} {tys:Array TypeId} {d1 d2:D} {p1 p2 N:Nat} {asg body:Code} {T1:List (Nat×V)} (left:Bool)
  (hGs : @ztS.gs G2=(l,.loop rec)::@ztS.gs G1) (hG3 : @ztS.gs G3=(l,.loop (recB left rec))::@ztS.gs G1) (hGE:∀ q∈@ztS.gs G1,q.1≠l) (hrec:rec.state = .ready∧rec.pending=none∧rec.params = #[p1,p2]∧rec.tmps.size=N) (hasg:rec.assign=asg) (hbd:rec.body=body)
  (hs:zvW C l rec T1) (hTN:(T1.all λq=>Nat.blt q.1 N)=true) (hp1N:Nat.blt p1 N=true) (hp2N:Nat.blt p2 N=true) (hp12:p1≠p2) (hp:(T1.all λq=>q.1 != p1&&q.1 != p2)=true)
  (ho:o.op = .call { callee:=.value x,args:=#[y1,y2],argTypes:=tys }) (hx:ev T x=some (.d (.fn (.yield l) [] []))) (hy1:ev T y1=some (.d d1)) (hy2:ev T y2=some (.d d2)) (hd:zup o.dst C.n=true)
  (hw : @zv6 G2 D0 C ops o ⟨T,H⟩ true) (hu:(T.all λq=>q.2.under H.length)=true) (hgn:Nat.ble C.gn H.length=true)
  (hH':(H'.all (Blk.under H'.length))=true) (hu':(T.all λp=>p.2.under H'.length)=true) (hgn':Nat.ble C.gn H'.length=true) (hT:Sub T T)
  (h:∀ (own0:Nat→Prop) (w:World) (gh:List (V×Value)),@TriR G1 D0 l P ⟨C.A0,own0,w,N,λ_ _=>False,gh,H.length,[]⟩ asg (λe s1=>e = .normal∧∀ (own0:Nat→Prop) (w:World),
   @TriR G1 D0 l P ⟨C.A0,own0,w,N,λ_ _=>False,gh,H.length,[]⟩ body (λe s2=>e=(if left=true then .ret else .normal)∧∃ X,s2.H=H'++X) s1) ⟨(p2,.d d2)::(p1,.d d1)::T1,H⟩) :
  OneX G2 D0 C G3 C P ops o ⟨T,H⟩ ((⟨T,H'⟩:St).put o.dst (.d (.bool (!left)))):=by
 obtain ⟨hst,hpe,hps,hsz⟩:=hrec;refine OneX.mk λbs a w hR Q i K hi hK=>?_
 have hwant:=@zv6.run G2 D0 _ _ _ _ _ hw bs a w hR;have e1:=@R.ev G2 D0 _ _ _ _ _ hR _ _ hx;have e21:=@R.ev G2 D0 _ _ _ _ _ hR _ _ hy1;have e22:=@R.ev G2 D0 _ _ _ _ _ hR _ _ hy2;obtain ⟨⟨o1,o2,o3,o4,og⟩,rlen,rblk,rtmp,rdef,rsz,rfr,rnew,rgh⟩:=hR;simp only [V.rep,D.rep,D.reps] at e1;obtain ⟨vs,us,e1,hv0,hu0⟩:=e1;have hv0:vs = #[]:=by simpa using hv0
 have hu0:us = #[]:=by simpa using hu0
 subst hv0 hu0;obtain ⟨hlO,hL⟩:=og (l,.loop rec) (by rw [hGs];simp);simp only at hlO hL;have hlt:l<w.heap.size:=(yn.1 hL).1;unfold wpOpIn;simp only [hi,hwant,if_true];refine ⟨λ_ _=>trivial,?_⟩;obtain ⟨tm0,htm0⟩:∃ tm0,tm0=rec.tmps.setIfInBounds p1 (a.eval y1):=⟨_,rfl⟩
 obtain ⟨tm1,htm1⟩:∃ tm1,tm1=tm0.setIfInBounds p2 (a.eval y2):=⟨_,rfl⟩
 have hrun:(execOp a.eval o).run P w = .ok (.round l rec.fn tm1 rec.assign rec.body) w:=by
  have hyl:=run_yield (P:=P) (args:=#[a.eval y1,a.eval y2]) hL (by rw [hps];rfl);rw [hps] at hyl;simp only [execOp,ho,resolve,e1,Deferred.ofValue,Sem.run_bind,Sem.run_pure,Result.andThen_ok,invoke];simpa [htm1,htm0] using hyl
 rw [show (o.semAt Fence.wide.round a.eval)=execOp a.eval o from rfl,hrun,Oper.uponIn_round];refine ⟨λh=>by simp [Fence.wide] at h,?_⟩;refine roundIn_of_wpIn trivial ?_;obtain ⟨gh1,hgh1⟩:∃ gh1,gh1=C.gh++vals a T T:=⟨_,rfl⟩
 have hgn:=yf hgn;have hGG:∀ q∈@ztS.gs G1,q∈@ztS.gs G2:=λq hq=>by rw [hGs];exact yX _ hq
 have hR1 : @R G1 D0 ⟨C.A0,λb=>some b∈bs,w,N,λ_ _=>False,gh1,H.length,[]⟩ bs ⟨(p2,.d d2)::(p1,.d d1)::T1,H⟩ { tmps:=tm1,defers:=[] } w:=by
  have hpn1:p1<rec.tmps.size:=by rw [hsz];simpa using hp1N
  have hpn2:p2<tm0.size:=by rw [htm0];simp;rw [hsz];simpa using hp2N
  have hs0:tm0.size=rec.tmps.size:=by rw [htm0];simp
  have hs1:tm1.size=rec.tmps.size:=by rw [htm1,htm0];simp
  refine @R.mk G1 D0 _ _ _ _ _ (@zwe.mk G1 _ _ _ o1 o2 o3 o4 λq hq=>og q (hGG q hq)) rlen rblk (λt v hv=>?_) rfl (by rw [hs1];exact hsz) (Fr.refl _ _) (λb hb=>.inl hb) λq hq=>?_
  ·simp only [zbc] at hv;split at hv <;> rename_i ht
   ·cases hv;subst ht;refine ⟨by rw [← hsz,← hs0];exact hpn2,?_⟩;rw [htm1,zc3 _ _ _ _ _ hpn2,if_pos rfl];exact e22
   ·split at hv <;> rename_i ht1
    ·cases hv;subst ht1;refine ⟨by rw [← hsz];exact hpn1,?_⟩;rw [htm1,zc3 _ _ _ _ _ hpn2,if_neg ht,htm0,zc3 _ _ _ _ _ hpn1,if_pos rfl];exact e21
    ·have hm:=zpW hv;have h1:=hs.2 _ hm;have h2:=yq.1 hTN _ hm;refine ⟨by simpa using h2,?_⟩;rw [htm1,zc3 _ _ _ _ _ hpn2,if_neg ht,htm0,zc3 _ _ _ _ _ hpn1,if_neg ht1];exact (rgh _ h1).2
  ·rw [hgh1] at hq;rcases yr.1 hq with hq | hq
   ·exact ⟨V.zu4 hgn _ (rgh q hq).1,(rgh q hq).2⟩
   ·obtain ⟨t,h1,h2⟩:=zd8 hq;exact ⟨zdr hu h1,by rw [h2];exact (rtmp t _ h1).2⟩
 rw [hasg];refine wpIn_mono (@TriR.run G1 D0 _ _ _ _ _ _ (h _ _ _) _ _ _ hR1) ?_;rintro e a1 w1 (⟨bs1,s1,⟨rfl,hb⟩,hR1'⟩ | ⟨_,h⟩)
 case inr=>exact h.elim
 simp only [Exit.then];have f1:Fr (λb=>some b∈bs) w w1:=by
  obtain ⟨_,_,_,_,_,_,f,_,_⟩:=hR1';exact f
 have n1:∀ b,some b∈bs1→some b∈bs∨w.heap.size≤b:=by
  obtain ⟨_,_,_,_,_,_,_,f,_⟩:=hR1';exact f
 have hlbs:¬ some l∈bs:=λh=>hlO (.inr h)
 have hL1:w1.heap[l]? = some (.loop rec):=(f1.block l hlt hlbs).trans hL;have hbr:=run_beginRound (P:=P) hL1 hst;refine ⟨_,hbr,?_⟩;obtain ⟨w2,hw2⟩:∃ w2,w2=w1.putObj l (.loop { rec with state:=.busy }):=⟨_,rfl⟩
 rw [← hw2];have t2:Turn w1 w2:=by rw [hw2];exact Turn.put hL1 rfl
 have hs2:w2.heap.size=w1.heap.size:=t2.size;have hlt1:l<w1.heap.size:=(yn.1 hL1).1;have hL2:w2.heap[l]? = some (.loop { rec with state:=.busy }):=by rw [hw2];exact World.putObj_heap_same hlt1
 have hput2:∀ q,q≠l→w2.heap[q]? = w1.heap[q]?:=λq hq=>by rw [hw2];exact World.putObj_heap_other hq
 have hR2 : @R G1 D0 ⟨C.A0,λb=>some b∈bs1,w2,N,λ_ _=>False,gh1,H.length,[]⟩ bs1 s1 a1 w2:=by
  have hg1 : @zdo G1 (Own C.A0 bs1) w1:=by
   obtain ⟨⟨_,_,_,_,g⟩,_⟩:=hR1';exact g
  exact R.turn hR1' t2 rfl rfl rfl rfl rfl (Fr.refl _ _) (λb hb=>.inl hb) λq hq=>⟨(hg1 q hq).1,by rw [hput2 _ (hGE q hq)];exact (hg1 q hq).2⟩
 rw [hbd];refine wpIn_mono (@TriR.run G1 D0 _ _ _ _ _ _ (hb _ _) _ _ _ hR2) ?_;rintro e a2 w3 (⟨bs2,s2,⟨he,X,hH⟩,hR3⟩ | ⟨_,h⟩)
 case inr=>exact h.elim
 have f3:Fr (λb=>some b∈bs1) w2 w3:=by
  obtain ⟨_,_,_,_,_,_,f,_,_⟩:=hR3;exact f
 have n3:∀ b,some b∈bs2→some b∈bs1∨w2.heap.size≤b:=by
  obtain ⟨_,_,_,_,_,_,_,f,_⟩:=hR3;exact f
 have hlbs1:¬ some l∈bs1:=λh=>(n1 l h).elim hlbs (λh=>by omega)
 have hlbs2:¬ some l∈bs2:=λh=>(n3 l h).elim hlbs1 (λh=>by omega)
 have hL3:w3.heap[l]? = some (.loop { rec with state:=.busy }):=(f3.block l (by omega) hlbs1).trans hL2;obtain ⟨w4,hw4⟩:∃ w4,w4=w3.putObj l (.loop (recB left rec)):=⟨_,rfl⟩
 have t4:Turn w3 w4:=by rw [hw4];exact Turn.put hL3 rfl
 have hlt3:l<w3.heap.size:=(yn.1 hL3).1;have hL4:w4.heap[l]? = some (.loop (recB left rec)):=by rw [hw4];exact World.putObj_heap_same hlt3
 have hput4:∀ q,q≠l→w4.heap[q]? = w3.heap[q]?:=λq hq=>by rw [hw4];exact World.putObj_heap_other hq
 have hRC : @R G3 D0 C bs2 ⟨T,s2.H⟩ a w4:=by
  obtain ⟨⟨p1,p2,p3,p4,pg⟩,plen,pblk,ptmp,pdef,psz,pfr,pnew,pgh⟩:=hR3;refine @R.mk G3 D0 _ _ _ _ _ (@zwe.mk G3 _ _ _ p1 p2 (λb hb=>by rw [t4.size];exact p3 b hb) (λb hb=>by rw [t4.size];exact p4 b hb) λq hq=>?_) plen (λi k hk=>Blk.zus t4 i k (pblk i k hk)) (λt v hv=>?_) rdef rsz ?_ (λb hb=>?_) λq hq=>?_
  ·rw [hG3] at hq;rcases yI.1 hq with rfl | hq
   ·exact ⟨λh=>h.elim (λh=>hlO (.inl h)) hlbs2,hL4⟩
   ·exact ⟨(pg q hq).1,by rw [hput4 _ (hGE q hq)];exact (pg q hq).2⟩
  ·exact ⟨(rtmp t v hv).1,V.zus t4 _ _ (pgh _ (by rw [hgh1];exact List.mem_append_right _ (zdG hv hv))).2⟩
  ·have hfr1:Fr (λb=>some b∈bs∨b=l∨some b∈bs1) w w4:=by
    have g1:Fr (λb=>some b∈bs∨b=l∨some b∈bs1) w w1:=f1.mono λ_ _ h=>.inl h
    have g2:Fr (λb=>some b∈bs∨b=l∨some b∈bs1) w1 w2:=by rw [hw2];exact ⟨rfl,rfl,rfl,by simp,λb _ hn=>World.putObj_heap_other (λe=>hn (.inr (.inl e))),λ_=>yk _⟩
    have g3:Fr (λb=>some b∈bs∨b=l∨some b∈bs1) w2 w3:=f3.mono λ_ _ h=>.inr (.inr h)
    have g4:Fr (λb=>some b∈bs∨b=l∨some b∈bs1) w3 w4:=by rw [hw4];exact ⟨rfl,rfl,rfl,by simp,λb _ hn=>World.putObj_heap_other (λe=>hn (.inr (.inl e))),λ_=>yk _⟩
    exact ((g1.trans g2).trans g3).trans g4
   refine ⟨hfr1.os.trans rfr.os,hfr1.tape.trans rfr.tape,hfr1.output.trans rfr.output,yJ rfr.size hfr1.size,λq hq hno=>?_,λd=>yJ (rfr.drawn d) (hfr1.drawn d)⟩;refine (hfr1.block q (yD hq rfr.size) λe=>?_).trans (rfr.block q hq hno);have hbs:¬ some q∈bs:=λh=>(rnew q h).elim hno (λh=>by omega)
   rcases e with e | e | e
   ·exact hbs e
   ·exact hno (by rw [e];exact hs.1)
   ·exact (n1 q e).elim hbs (λh=>by have:=rfr.size;omega)
  ·have hsz1:=f1.size;have hsz0:=rfr.size;rcases n3 b hb with h1 | h1
   ·rcases n1 b h1 with h1 | h1
    ·exact rnew b h1
    ·exact .inr (by omega)
   ·exact .inr (by omega)
  ·exact ⟨(rgh q hq).1,V.zus t4 _ _ (pgh q (by rw [hgh1];exact List.mem_append_left _ hq)).2⟩
 obtain ⟨bs4,hR4⟩:=@R.ge G3 D0 _ _ _ ⟨T,H'⟩ _ _ hRC ⟨X,hH,hH',hu',hT⟩ hgn';have hfin:K (a.put o.dst (.bool (!left))) w4:=hK _ _ ⟨bs4,@R.put G3 D0 _ _ _ _ _ _ hR4 (Fr.refl _ _) o.dst hd (.d (.bool (!left))) (.bool (!left)) (zr.2 rfl)⟩;cases left with
 | false=>
  simp only [ye,if_false] at he;subst he;simp only [roundPost];have her:=run_endRound (P:=P) none hL3;have hback:({ { rec with state:=LoopState.busy } with state:=if (none:Option Code).isNone then LoopState.ready else LoopState.done,pending:=none }:Loop)=recB false rec:=by
   cases rec;simp only at hst hpe;subst hst hpe;rfl
  rw [hback,← hw4] at her;exact ⟨_,_,her,hfin⟩
 | true=>
  simp only [if_true] at he;subst he;simp only [roundPost];have her:=run_endRound (P:=P) (some .ret) hL3;have hback:({ { rec with state:=LoopState.busy } with state:=if (some Code.ret:Option Code).isNone then LoopState.ready else LoopState.done,pending:=some Code.ret }:Loop)=recB true rec:=by
   cases rec;rfl
  rw [hback,← hw4] at her;exact ⟨_,_,her,hfin⟩
theorem Tri.zxT {G0:ztS} {D0:Drw} {P:Program} {fnC:Func} {A:Nat→Prop} {w0:World} {n N p1 p2 b0:Nat} {E:Ending→World→Prop} {RQ:St→Prop} {s0:St} {T:List (Nat×V)} {H:List Blk} {g:Operand} {x asg body tail:Code} {fi:FuncId} {fs cs:List D} {fn:Func} {c:Code} {Q:Exit→St→Prop} {K:List Blk→Prop} (left:Bool)
    (hx0 : @Tri G0 D0 P ⟨A,ze,w0,n,λ_ _=>False,[],0,[]⟩ x (λe s=>e = .normal∧s=⟨T,H⟩) s0) (hx:ev T g=some (.d (.fn (.func fi) fs cs))) (hc:ztT P fi=true) (hf:P.funcs[fi]? = some fn) (hb:fn.body=some c) (hN:fn.ntmps=N) (hres:fn.results = #[])
    (hn:Nat.ble (fs.length+1+cs.length) N=true) (hu:(T.all λq=>q.2.under H.length)=true)
    (h:∀ (l Dd:Nat) (rec:Loop) (own0:Nat→Prop) (w:World) (gh:List (V×Value)) (G':ztS),l≠Dd→@ztS.gs G'=(l,.loop rec)::(Dd,.deferred (some []))::@ztS.gs G0→(∀ q∈@ztS.gs G0,q.1≠l)→(rec.state = .ready∧rec.pending=none∧rec.params = #[p1,p2]∧rec.tmps.size=n) →
      rec.assign=asg→rec.body=body→own0 l→(∀ t v,look t T=some v→(v,rec.tmps.getD t Go.undef)∈gh)→∀ G'':ztS,@ztS.gs G''=(l,.loop (recB left rec))::(Dd,.deferred (some []))::@ztS.gs G0 →
      TriX G' D0 ⟨A,own0,w,N,λ_ _=>False,gh,H.length,[]⟩ G'' P c (λe s=>(e = .ret∨e = .normal)∧K s.H) ⟨zbQ 0 (fs.map .d++[.d (.fn (.yield l) [] [])]++cs.map .d),H⟩)
    (kl:left=true→∀ H2,K H2→RQ ⟨T,H2⟩)
    (k:left=false→∀ (Dd:Nat) (H2:List Blk) (G':ztS),@ztS.gs G'=(Dd,.deferred (some []))::@ztS.gs G0→K H2→@Tri G' D0 P ⟨A,ze,w0,n,λ_ _=>False,[],0,[{ target:=.collected Dd,args:=#[] }]⟩ tail (λe s=>e = .ret∧RQ s) ⟨T,H2⟩)
    (hEnd:∀ (s:St) (bs:List (Option Nat)) (a:Act) (w:World) (df:List Deferred),RQ s→@R G0 D0 ⟨A,ze,w0,n,λ_ _=>False,[],0,df⟩ bs s a w→∃ u,(results fnC a.tmps).run P w = .ok u w∧E (.returned u) w) :
    @Tri G0 D0 P ⟨A,ze,w0,n,λa' w'=>LeavesInM Fence.wide 0 P fnC a'.tmps (E) a'.defers .returning w',[],0,[]⟩ (.seq (.seq x (.block b0 (.rangeFunc g #[p1,p2] asg body))) tail) Q s0:=by
  subst hN;have hn:=yf hn;refine @Tri.mk G0 D0 _ _ _ _ _ λbs a w' hR=>?_
  have hR0 : @R G0 D0 ⟨A,ze,w0,n,λ_ _=>False,[],0,[]⟩ bs s0 a w':=by
    obtain ⟨q1,q2,q3,q4,q5,q6,q7,q8,q9⟩:=hR;exact @R.mk G0 D0 _ _ _ _ _ q1 q2 q3 q4 q5 q6 q7 q8 q9
  refine wp_seq (wp_seq (Code.wp_mono ?_ (@Tri.run G0 D0 _ _ _ _ _ hx0 bs a w' hR0)));rintro e a w3 (⟨bs,s,⟨rfl,rfl⟩,hR⟩ | ⟨_,hE⟩)
  case inr=>exact hE.elim
  simp only [Exit.then];clear hR0;have e1:=@R.ev G0 D0 _ _ _ _ _ hR _ _ hx;have hRf:=λ{w'} (f:Fr ze w3 w')=>@R.put G0 D0 _ _ _ _ _ _ hR f none rfl .junk Go.undef (by simp only [V.rep])
  obtain ⟨⟨o1,o2,o3,o4,og⟩,rlen,rblk,rtmp,rdef,rsz,rfr,rnew,rgh⟩:=hR;simp only [V.rep,D.rep] at e1;obtain ⟨vs,us,e1,hvs,hus⟩:=e1;refine (wpIn_wide (n:=0)).1 (wpIn_block (wpIn_rangeFunc ?_));intro fnid _;obtain ⟨rec,hrec⟩:∃ rec:Loop,rec = { state:=.ready,pending:=none,fn:=fnid,tmps:=a.tmps,params:=#[p1,p2],assign:=asg,body:=body,defers:=w3.heap.size }:=⟨_,rfl⟩
  obtain ⟨l,hl⟩:∃ l,l=w3.heap.size+1:=⟨_,rfl⟩
  obtain ⟨Dd,hDd⟩:∃ Dd,Dd=w3.heap.size:=⟨_,rfl⟩
  obtain ⟨w4,hw4⟩:∃ w4,(w3.alloc (.deferred (some []))).alloc (.loop rec)=w4:=⟨_,rfl⟩
  have hold:∀ q,q<w3.heap.size→w4.heap[q]? = w3.heap[q]?:=λq hq=>by rw [← hw4];exact (Below.heap_alloc _ _ q (by simp;omega)).trans (Below.heap_alloc _ _ q hq)
  have hL4:w4.heap[l]? = some (.loop rec):=by rw [← hw4,hl];have:=World.alloc_heap_new (w3.alloc (.deferred (some []))) (.loop rec);rwa [World.size_alloc] at this
  have hD4:w4.heap[Dd]? = some (.deferred (some [])):=by rw [← hw4,hDd];exact (Below.heap_alloc _ _ _ (by simp)).trans (World.alloc_heap_new w3 _)
  have hs4:w4.heap.size=w3.heap.size+2:=by rw [← hw4];simp
  have hfr4:Fr ze w3 w4:=by
    rw [← hw4];exact (⟨rfl,rfl,rfl,by simp,λb hb _=>Below.heap_alloc _ _ b hb,λ_=>yk _⟩:Fr ze w3 (w3.alloc (.deferred (some [])))).trans ⟨rfl,rfl,rfl,by simp,λb hb _=>Below.heap_alloc _ _ b hb,λ_=>yk _⟩
  refine ⟨l,[{ target:=.collected Dd,args:=#[] }],w4,{ target:=.fn (.func fi) us,args:=vs++#[.func (.yield l) #[] #[]] },w4,fi,vs++#[.func (.yield l) #[] #[]]++us,w4,?_,?_,λ_ _=>trivial,?_,λh=>by simp [Fence.wide] at h,?_⟩
  · rw [← hw4,hl,hDd,hrec];exact run_enterLoop_outer _ _ _ _ _
  · have ek:∀ v,a.eval (.const v)=v:=λ_=>rfl
    simp [resolve,e1,Deferred.ofValue,ek]
  · simp only [invoke];exact zaW hc _ w4
  have hR4:=hRf hfr4;obtain ⟨⟨q1,q2,q3,q4,qg⟩,qlen,qblk,qtmp,qdef,qsz,qfr,qnew,_⟩:=hR4;have hlA:¬ Own A bs l:=λh=>by
    rcases h with h | h
    · have:=o4 l h;omega
    · have:=o3 l h;omega
  have hDA:¬ Own A bs Dd:=λh=>by
    rcases h with h | h
    · have:=o4 Dd h;omega
    · have:=o3 Dd h;omega
  have hgl:∀ q∈@ztS.gs G0,q.1<w3.heap.size:=λq hq=>(yn.1 (og q hq).2).1
  obtain ⟨G',hG'⟩:∃ G':ztS,@ztS.gs G'=(l,.loop rec)::(Dd,.deferred (some []))::@ztS.gs G0:=⟨⟨_⟩,rfl⟩
  obtain ⟨G'',hG''⟩:∃ G'':ztS,@ztS.gs G''=(l,.loop (recB left rec))::(Dd,.deferred (some []))::@ztS.gs G0:=⟨⟨_⟩,rfl⟩
  obtain ⟨GD,hGD⟩:∃ G':ztS,@ztS.gs G'=(Dd,.deferred (some []))::@ztS.gs G0:=⟨⟨_⟩,rfl⟩
  have hvl:=D.zub hvs;have hul:=D.zub hus;simp only [yt] at hvl hul;have hreps:V.reps (Own A bs) w4 bs H (fs.map .d++[.d (.fn (.yield l) [] [])]++cs.map .d) (vs++#[Value.func (.yield l) #[] #[]]++us:Array Value).toList:=by
    simp only [Array.toList_append];have key:∀ (ds:List D) (vs:List Value),D.reps (Own A bs) w4 ds vs→V.reps (Own A bs) w4 bs H (ds.map .d) vs:=by
      intro ds
      induction ds with
      | nil=>intro vs h;simpa only [D.reps,List.map_nil,V.reps] using h
      | cons d ds ih=>
        intro vs h;simp only [D.reps] at h;obtain ⟨v,vs',rfl,h1,h2⟩:=h;simp only [yV,V.reps,V.rep];exact ⟨v,vs',rfl,h1,ih _ h2⟩
    refine V.zuq (V.zuq (key _ _ (D.zw5 hfr4 hvs)) ?_) (key _ _ (D.zw5 hfr4 hus));simp [V.reps,V.rep,D.rep,D.reps]
  have hRi : @R G' D0 ⟨A,λb=>some b∈bs∨b=l,w4,fn.ntmps,λ_ _=>False,vals a T T,H.length,[]⟩ bs ⟨zbQ 0 (fs.map .d++[.d (.fn (.yield l) [] [])]++cs.map .d),H⟩ { tmps:=(vs++#[Value.func (.yield l) #[] #[]]++us)++Array.replicate (fn.ntmps - (vs++#[Value.func (.yield l) #[] #[]]++us).size) undef,defers:=[] } w4:=by
    have hsz:((vs++#[Value.func (.yield l) #[] #[]]++us)++Array.replicate (fn.ntmps - (vs++#[Value.func (.yield l) #[] #[]]++us).size) undef).size=fn.ntmps:=by simp;omega
    refine @R.mk G' D0 _ _ _ _ _ (@zwe.mk G' _ _ _ q1 q2 q3 q4 λq hq=>?_) qlen qblk (λt v hv=>?_) rfl hsz (Fr.refl _ _) (λb hb=>.inl (.inl hb)) λq hq=>?_
    · rw [hG'] at hq
      rcases yI.1 hq with rfl | hq
      · exact ⟨hlA,hL4⟩
      rcases yI.1 hq with rfl | hq
      · exact ⟨hDA,hD4⟩
      · exact qg q hq
    · have:=zcR _ 0 _ ((vs++#[Value.func (.yield l) #[] #[]]++us)++Array.replicate (fn.ntmps - (vs++#[Value.func (.yield l) #[] #[]]++us).size) undef) hreps
        (λj hj=>by
          have hj':j<(vs++#[Value.func (.yield l) #[] #[]]++us).size:=by have:=hj;simp at this ⊢;omega
          rw [uk,yN,Array.getElem?_append_left hj',List.getD,y0])
        (by rw [hsz];simp;omega) t v hv
      rw [hsz] at this;exact this
    · obtain ⟨t,h1,h2⟩:=zd8 hq
      exact ⟨zdr hu h1,by rw [h2];exact (qtmp t _ h1).2⟩
  have htri:=h l Dd rec (λb=>some b∈bs∨b=l) w4 (vals a T T) G' (by omega) hG' (λq hq=>by have:=hgl q hq;omega) (by rw [hrec];exact ⟨rfl,rfl,rfl,rsz⟩) (by rw [hrec]) (by rw [hrec]) (.inr rfl) (λt v hv=>by rw [hrec];exact zdG hv hv) G'' hG'';refine callsIn_wide.2 (calls_of_wp hf hb (Code.wp_mono ?_ (htri.run bs _ w4 hRi)));rintro e a' w5 ⟨bs',s',⟨he,hk⟩,hR5⟩;obtain ⟨⟨p1,p2,p3,p4,pg⟩,plen,pblk,ptmp,pdef,psz,pfr,pnew,pgh⟩:=hR5;have hrun:(results fn a'.tmps).run P w5 = .ok (.tuple #[]) w5:=by
    rw [zb1,hres];simp [Sem.run_bind,Sem.run_pure]
  have hfin:rangePost Fence.wide 0 P l (Exit.inBlock b0 (Exit.then (tail.wp P (@QR G0 D0 ⟨A,ze,w0,n,λa' w'=>LeavesInM Fence.wide 0 P fnC a'.tmps (E) a'.defers .returning w',[],0,[]⟩ Q)) (@QR G0 D0 ⟨A,ze,w0,n,λa' w'=>LeavesInM Fence.wide 0 P fnC a'.tmps (E) a'.defers .returning w',[],0,[]⟩ Q))) { a with defers:=[{ target:=.collected Dd,args:=#[] }]++a.defers } (.returned (.tuple #[])) w5:=by
    have hL5:=(pg (l,.loop (recB left rec)) (by rw [hG''];simp)).2;have hD5:=(pg (Dd,.deferred (some [])) (by rw [hG''];simp)).2;simp only at hL5 hD5;simp only [rangePost];have hst5:(recB left rec).state≠.busy:=by unfold recB;rw [hrec];cases left <;> simp
    have hel:=run_endLoop (P:=P) hL5 hst5;obtain ⟨w6,hw6⟩:∃ w6,w6=w5.putObj l (.loop { recB left rec with state:=.exhausted }):=⟨_,rfl⟩
    rw [← hw6] at hel;refine ⟨_,_,hel,?_⟩;have t6:Turn w5 w6:=by rw [hw6];exact Turn.put hL5 rfl
    have hput6:∀ q,q≠l→w6.heap[q]? = w5.heap[q]?:=λq hq=>by rw [hw6];exact World.putObj_heap_other hq
    have hlbs':∀ b,some b∈bs'→(some b∈bs∨b=l)∨w4.heap.size≤b:=pnew;have hR6 : @R GD D0 ⟨A,ze,w0,n,λ_ _=>False,[],0,[{ target:=.collected Dd,args:=#[] }]⟩ bs' ⟨T,s'.H⟩ { a with defers:=[{ target:=.collected Dd,args:=#[] }]++a.defers } w6:=by
      refine @R.mk GD D0 _ _ _ _ _ (@zwe.mk GD _ _ _ p1 p2 (λb hb=>by rw [t6.size];exact p3 b hb) (λb hb=>by rw [t6.size];exact p4 b hb) λq hq=>?_) plen (λi k hk=>Blk.zus t6 i k (pblk i k hk)) (λt v hv=>?_) (by simp only;rw [rdef];rfl) rsz ?_ (λb hb=>?_) (λq hq=>(by cases hq))
      · rw [hGD] at hq
        have hq':q∈@ztS.gs G'':=by rw [hG''];exact yX _ hq
        have hne:q.1≠l:=by
          rcases yI.1 hq with rfl | hq
          · simp only;omega
          · have:=hgl q hq;omega
        exact ⟨(pg q hq').1,by rw [hput6 _ hne];exact (pg q hq').2⟩
      · exact ⟨(rtmp t v hv).1,V.zus t6 _ _ (pgh _ (zdG hv hv)).2⟩
      · have f5:Fr (λb=>some b∈bs∨b=l) w4 w5:=pfr
        have f6:Fr (λb=>some b∈bs∨b=l) w5 w6:=by rw [hw6];exact ⟨rfl,rfl,rfl,by simp,λb _ hn=>World.putObj_heap_other (λe=>hn (.inr e)),λ_=>yk _⟩
        have f46:=(hfr4.mono (W':=λb=>some b∈bs∨b=l) λ_ _ x=>x.elim).trans (f5.trans f6);have rfr':Fr ze w0 w3:=rfr;refine ⟨f46.os.trans rfr'.os,f46.tape.trans rfr'.tape,f46.output.trans rfr'.output,yJ rfr'.size f46.size,λq hq hno=>?_,λd=>yJ (rfr'.drawn d) (f46.drawn d)⟩;have:=rfr'.size;have hq:q<w0.heap.size:=hq;refine (f46.block q (by omega) λe=>?_).trans (rfr'.block q hq hno);rcases e with e | e
        · have h3:ze q∨w0.heap.size≤q:=rnew q e
          exact h3.elim (λx=>x) (λh=>by omega)
        · omega
      · have hz:w0.heap.size≤w3.heap.size:=rfr.size
        rcases hlbs' b hb with (h1 | h1) | h1
        · exact rnew b h1
        · exact .inr (by simp only;omega)
        · exact .inr (by simp only;omega)
    have hlast:∀ (bs7:List (Option Nat)) (s7:St) (a7:Act) (w7:World),RQ s7→@R GD D0 ⟨A,ze,w0,n,λ_ _=>False,[],0,[{ target:=.collected Dd,args:=#[] }]⟩ bs7 s7 a7 w7→LeavesInM Fence.wide 0 P fnC a7.tmps (E) a7.defers .returning w7:=by
     intro bs7 s7 a7 w7 hrq7 hR7;have hg7 : @zdo GD (Own A bs7) w7:=by
       obtain ⟨⟨_,_,_,_,g⟩,_⟩:=hR7;exact g
     have hdf7:a7.defers=[{ target:=.collected Dd,args:=#[] }]:=by
       obtain ⟨_,_,_,_,d,_⟩:=hR7;exact d
     have hfr7:Fr ze w0 w7:=by
       obtain ⟨_,_,_,_,_,_,f,_,_⟩:=hR7;exact f
     have hnew7:∀ b,some b∈bs7→ze b∨w0.heap.size≤b:=by
       obtain ⟨_,_,_,_,_,_,_,f,_⟩:=hR7;exact f
     have hD7:=(hg7 (Dd,.deferred (some [])) (by rw [hGD];simp)).2;simp only at hD7;obtain ⟨w8,hw8⟩:∃ w8,w8=w7.putObj Dd (.deferred none):=⟨_,rfl⟩
     have hput8:∀ q,q≠Dd→w8.heap[q]? = w7.heap[q]?:=λq hq=>by rw [hw8];exact World.putObj_heap_other hq
     have hfr8:Fr ze w0 w8:=by
       have hz:w0.heap.size≤w3.heap.size:=rfr.size;refine ⟨by rw [hw8];exact hfr7.os,by rw [hw8];exact hfr7.tape,by rw [hw8];exact hfr7.output,by rw [hw8];simpa using hfr7.size,λq hq hno=>(hput8 q (by omega)).trans (hfr7.block q hq hno),by rw [hw8];exact hfr7.drawn⟩
     have hR8:=R.turn (G':=G0) (C':=⟨A,ze,w0,n,λ_ _=>False,[],0,[{ target:=.collected Dd,args:=#[] }]⟩) hR7 (w':=w8) (by rw [hw8];exact Turn.put hD7 rfl) rfl rfl rfl rfl rfl hfr8 hnew7 λq hq=>by
       have hne:q.1≠Dd:=by have:=hgl q hq;omega
       have:=hg7 q (by rw [hGD];exact yX _ hq);exact ⟨this.1,by rw [hput8 _ hne];exact this.2⟩
     obtain ⟨u,hu1,hu2⟩:=hEnd s7 bs7 a7 w8 _ hrq7 hR8;show LeavesInM Fence.wide 0 P fnC a7.tmps (E) a7.defers .returning w7;rw [hdf7];exact ⟨by simp,.inl ⟨Dd,w8,rfl,by rw [hw8];exact run_takeDeferred hD7,u,hu1,hu2⟩⟩
    cases left with
    | false=>
      have hp:(recB false rec).pending=none:=by unfold recB;rw [hrec];rfl
      rw [hp];simp only [Exit.inBlock,Exit.then];refine Code.wp_mono ?_ (@Tri.run GD D0 _ _ _ _ _ (k rfl Dd s'.H GD hGD hk) _ _ _ hR6);rintro e a7 w7 (⟨bs7,s7,⟨rfl,hrq7⟩,hR7⟩ | ⟨_,hE⟩)
      · exact .inr ⟨rfl,hlast bs7 s7 a7 w7 hrq7 hR7⟩
      · exact hE.elim
    | true=>
      have hp:(recB true rec).pending=some .ret:=rfl;rw [hp];refine wpIn_ret ?_;simp only [Exit.inBlock,Exit.then];exact .inr ⟨rfl,hlast bs' ⟨T,s'.H⟩ _ w6 (kl rfl s'.H hk) hR6⟩
  rcases he with rfl | rfl
  · exact ⟨pdef,_,hrun,hfin⟩
  · exact ⟨pdef,_,hrun,hfin⟩
section
variable [ztS] [Drw]
def upd (f:Nat→Bool) (i j:Nat):Bool:=Nat.beq j i||f j
end
set_option maxRecDepth 100000 in
theorem zo5 (p:Addr) (older:List PanicEntry) (w:World) :
  CallsD Tryz.prog 125 #[.pointer (some p)] (.panicking ({ v:=.iface 182 (.agg #[]),recovered:=false }::older)) w λe u' w'=>
   e = .returned (.tuple #[])∧u' = .panicking ({ v:=.iface 182 (.agg #[]),recovered:=true }::older)∧w'=w.alloc (.cells #[] 182):=by
 refine callsD_of_wpS Tryz.func125 rfl λc₀ cs hu=>?_
 apply wpS_seq
 apply wpS_region
 simp [wpOpsS,go_sem,recoverD,hu,Tryz.ntmps125,Exit.thenS]
 have hta:∀ w:World,(Instr.typeAssert (.iface 182 (.agg #[])) 20 182 true).run Tryz.prog w = .ok (.tuple #[.agg #[],.bool true]) w:=λw=>by
  have hu:Tryz.prog.underlying 182=some (.struct #[]):=by kernel_rfl
  simp [Instr.typeAssert,run_underlying hu]
 refine wpS_of_wp ?_
 go_wp2
 cases c₀
 simp [bodyPostS,results,Tryz.results125,go_sem]
set_option maxRecDepth 100000 in
theorem zqo (p:Addr) (b:Bool) (w:World) (hc:w.cell? p=some (.bool b)) (hz:w.frozen? p=false) :
  CallsD Tryz.prog 125 #[.pointer (some p)] .returning w λe u' w'=>
   e = .returned (.tuple #[])∧u' = .returning∧w'=w.setCell p (.bool true):=by
 refine callsD_of_wpS Tryz.func125 rfl λc₀ cs hu=>?_
 apply wpS_seq
 apply wpS_region
 simp [wpOpsS,go_sem,recoverD,hu,Tryz.ntmps125,Exit.thenS]
 refine wpS_of_wp ?_
 go_wp2
 cases c₀
 simp_all [bodyPostS,results,Tryz.results125,go_sem]
set_option maxRecDepth 100000 in
theorem znn {K:Bool→World→Prop} (f:FuncId) (caps:Array Value) (w:World) (hcl:ztT Tryz.prog f=true)
  (h:Calls Tryz.prog f caps (w.alloc (.cells #[.bool false] 4)) λe w'=>w'.cell? ⟨w.heap.size,0,none⟩=some (.bool false)∧w'.frozen? ⟨w.heap.size,0,none⟩=false ∧
   ((∃ u,e = .returned u∧K true ((w'.setCell ⟨w.heap.size,0,none⟩ (.bool true)).setCell ⟨w.heap.size,0,none⟩ (.bool true)))∨(e = .panicked [{ v:=.iface 182 (.agg #[]),recovered:=false }]∧K false (w'.alloc (.cells #[] 182))))) :
  Calls Tryz.prog 70 #[.func (.func f) #[] caps] w λe w'=>∃ b,e = .returned (.bool b)∧K b w':=by
 have hmf:∀ (fn:Fn) (first cap:Array Value) (w:World),(Instr.makeFunc fn first cap).run Tryz.prog w = .ok (.func fn first cap) w:=λ_ _ _ _=>rfl
 go_enter_defers Tryz.func70,Tryz.ntmps70
 go_wp2
 rw [zaW hcl caps]
 simp only [Oper.upon]
 refine Calls.mono h ?_
 rintro e w' ⟨hc,hz,⟨u,rfl,hK⟩ | ⟨rfl,hK⟩⟩
 ·simp only
  go_wp2
  have hb:(w'.setCell ⟨w.heap.size,0,none⟩ (.bool true)).cell? ⟨w.heap.size,0,none⟩=some (.bool true):=by simp [go_sem,hc]
  have hz2:(w'.setCell ⟨w.heap.size,0,none⟩ (.bool true)).frozen? ⟨w.heap.size,0,none⟩=false:=by simpa using hz
  have hb2:((w'.setCell ⟨w.heap.size,0,none⟩ (.bool true)).setCell ⟨w.heap.size,0,none⟩ (.bool true)).cell? ⟨w.heap.size,0,none⟩=some (.bool true):=by simp [go_sem,hc]
  refine leaves_cons (f:=125) (args:=#[.pointer (some ⟨w.heap.size,0,none⟩)]) (by simp) (by simp [go_sem]) ?_
  refine (zqo ⟨w.heap.size,0,none⟩ true _ hb hz2).mono ?_
  rintro e u' w'' ⟨rfl,rfl,rfl⟩
  simp [Leaves,settle,results,Tryz.results70,go_sem,hb2]
  exact hK
 ·show bodyPostD _ _ _ (Exit.panic _) _ _
  refine leaves_cons (f:=125) (args:=#[.pointer (some ⟨w.heap.size,0,none⟩)]) (by simp) (by simp [go_sem]) ?_
  refine (zo5 ⟨w.heap.size,0,none⟩ [] _).mono ?_
  rintro e u' w'' ⟨rfl,rfl,rfl⟩
  have hb2:(w'.alloc (.cells #[] 182)).cell? ⟨w.heap.size,0,none⟩=some (.bool false):=by rw [World.cell?_alloc_some _ _ _ (by rw [hc];rfl)];exact hc
  simp [Leaves,settle,results,Tryz.results70,go_sem,hb2]
  exact hK
theorem zqv:Guard Tryz.prog 70 4 182 (.iface 182 (.agg #[])):=λK f caps w hc h=>znn f caps w hc h
end Go.Proofs.YtipkniadbkndfaaGreatDoor
