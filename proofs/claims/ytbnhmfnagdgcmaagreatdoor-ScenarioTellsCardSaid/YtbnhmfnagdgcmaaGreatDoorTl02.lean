/- Part of the proof of one law of the seat. -/
import Derived.Test.YtbnhmfnagdgcmaaGreatDoorTl01
import Derived.Laws.StructEq
import Derived.Laws.MakeOwn
import Derived.Maps.RangeRun
import Derived.MapKept
import Derived.RangeFuncRecord
import Derived.RangeFuncLeaves
import Derived.RangeFuncCalls
import Derived.TacticsIn
import Derived.Laws.CopyRow
import Derived.Lib.SliceRun
import Derived.Laws.Externs
import Derived.Lib.Bytealg
import Derived.Lib.LaidTab
import Derived.Lib.ItoaNum
import Derived.WideKeyRuns
import Derived.ArgAppend
import Derived.Sort.Defs
import Derived.Lib.BitFns
import Derived.Sort.AssemblyPlain
import Derived.Shelf.SlSortCmp.Insertion
import Derived.Laws.BytesString
import Derived.WideLaws
import Derived.Test.YtbnhmfnagdgcmaaGreatDoorProg
import Derived.KernelRfl
set_option linter.unusedVariables false
set_option linter.unusedSectionVars false
set_option linter.unusedSimpArgs false
set_option maxHeartbeats 4000000
namespace Go.Proofs.YtbnhmfnagdgcmaaGreatDoor
open Go Go.RowKit
abbrev yk:=@_root_.List.getElem_mem
abbrev yF:=@_root_.decide_eq_false_iff_not
abbrev y0:=@_root_.Int.natCast_mul
abbrev un:=@_root_.List.mem_cons_of_mem
abbrev uo:=@_root_.Bool.and_eq_false_iff
abbrev ur:=@_root_.List.append_nil
abbrev uD:=@_root_.Bool.and_true
abbrev uK:=@_root_.List.ext_getElem
abbrev uM:=@_root_.List.mem_cons_self
section
variable [Globs] [Drw]
theorem D.flat_set {A w k}:∀ {xs:List D} {cs:List Value},D.flat A w k xs cs→∀ (j:Nat),j<xs.length→∀ {x:D} {u:Value},D.rep A w x u→u.cells.size=k→D.flat A w k (xs.set j x) (cs.take (j*k)++u.cells.toList++cs.drop (j*k+k))
 | [],_,_,j,hj,_,_,_,_=>absurd hj (by simp)
 | y::xs,cs,h,0,_,x,u,hx,hu=>by
  simp only [D.flat] at h;obtain ⟨v,cs',rfl,hk,_,h2⟩:=h;simp only [List.set_cons_zero,D.flat];refine ⟨u,cs',?_,hu,hx,h2⟩;simp only [Nat.zero_mul,List.take_zero,yV,uq];rw [List.drop_left' (by simp [hk])]
 | y::xs,cs,h,j+1,hj,x,u,hx,hu=>by
  simp only [D.flat] at h;obtain ⟨v,cs',rfl,hk,h1,h2⟩:=h;simp only [List.set_cons_succ,D.flat];refine ⟨v,_,?_,hk,h1,D.flat_set h2 j (by simpa using hj) hx hu⟩;have e:(j+1)*k=v.cells.toList.length+j*k:=by rw [uj,yC,hk];omega
  rw [e,List.take_length_add_append,Nat.add_assoc,List.drop_length_add_append];simp only [yB]
theorem stoS {α:Type} {l:List α} {i:Int} {x:α} {r:List α} (h:sto l i x=some r):∃ n:Nat,i=(n:Int)∧n<l.length∧r=l.set n x:=by
 unfold sto at h;split at h
 ·rename_i h0;obtain ⟨n,rfl⟩:=yQ h0.1;cases h;exact ⟨n,rfl,by simpa using h0.2,by simp⟩
 ·cases h
theorem TriL.storeEl {P C ops o rest Q T H} {α:Type} {t el x y} {i n k:Nat} {enc:α→D} {l r:List α} {z:α} {a:Int}
  (hg:o.guard=none) (ho:o.op = .store t x y) (hd:o.dst=none) (hx:ev T x=some (.el i n a.toNat 0)) (hi:H[i]? = some (.vec el k (l.map enc))) (hn:n=l.length) (hy:ev T y=some (.d (enc z))) (hk:(enc z).kOK k=true) (h1:(enc z).ones=true)
  (hs:cellsOf P t=some k) (hv:sto l a z=some r)
  (kk:TriL P C ops rest Q ⟨T,H.set i (.vec el k (r.map enc))⟩):TriL P C ops (o::rest) Q ⟨T,H⟩:=by
 obtain ⟨j,rfl,hj,rfl⟩:=stoS hv;refine TriL.step hg (λbs a w hR=>?_) kk;have hp:=hR.ev hx;have hz:=hR.ev hy;simp only [V.rep] at hz;simp only [V.rep,hi] at hp;obtain ⟨hdr,cells,g1,g2,g3,b,g4,g5⟩:=hp.2 (by simpa using hn);simp only [yq,uu] at g5;rcases g1.2 with ⟨h,h0⟩ | ⟨g,cap,cur,hh,_,hheap,hnc,hcm,hcs,htake⟩
 ·omega
 obtain rfl:g=b:=by rw [hh] at g4;simpa [Value.ownBlock] using g4
 have hsz:=D.kOK_cells hz hk;have hone:∀ c∈(Act.eval a y).cells.toList,c.oneCell'=true:=D.one_cells hz h1;have hjk:j*k+k≤n*k:=by rw [← uj];exact yZ _ (by omega)
 have hnk:n*k≤cap*k:=yZ _ hnc;have hst:=run_storeCells_at P g (j*k) el (Act.eval a y).cells.toList 0 cur w hheap (by simp [hsz,hcs];omega) hone;simp only [uu,yC] at hst;unfold cellsOf at hs;cases hinf:P.info? t with
 | none=>simp [hinf] at hs
 | some inf=>
  simp only [hinf,yT,yh] at hs;have hsz':(Act.eval a y).cells.size=inf.size:=by omega
  have hrun:(execOp a.eval o).run P w = .ok .skip (w.setRow g (cur.toList.take (j*k)++(Act.eval a y).cells.toList++cur.toList.drop (j*k+(Act.eval a y).cells.size)).toArray):=by
   simp only [execOp,ho,g5,Instr.storeAt,Instr.sureAddr,storeVar,sizeOf,typeInfo,program,Sem.run_bind,Sem.run,hinf,Sem.run_pure,Result.andThen_ok,hsz',ne_eq,not_true_eq_false,if_false];rw [hsz'] at hst;simp [hst]
  have hfr:Fr (λc=>some g=some c) w (w.setRow g (cur.toList.take (j*k)++(Act.eval a y).cells.toList++cur.toList.drop (j*k+(Act.eval a y).cells.size)).toArray):=
   ⟨rfl,rfl,rfl,by simp,λc _ hno=>setRow_other w g c _ (λe=>hno (by rw [e])),λ_=>yn _⟩
  have hset:bs.set i (some g)=bs:=by
   refine ui λq=>?_
   by_cases hij:i=q
   ·subst hij;rw [yt (yb.1 g2).1,g2,g4]
   ·rw [yv hij]
  have hWA:∀ c,some g=some c→Own C.A0 bs c:=λc hc=>.inr (by rw [← hc];rw [g4] at g2;exact yu g2)
  have hupd:=R.upd (y:=.vec el k ((l.set j z).map enc)) (c:=some g) (c':=some g) hR hi (by rw [g2,g4]) (by
   simp only [Compat];refine .inr ⟨by simp,trivial,trivial,λv cells' q1 q2 q3=>?_⟩;rcases q1.2 with ⟨h,h0⟩ | ⟨g',cap',cur',hh',_,hheap',hnc',hcm',hcs',htake'⟩
   ·simp only [yS] at h0;omega
   obtain rfl:g=g':=by rw [hh'] at q2;simpa [Value.ownBlock] using q2
   rw [hheap] at hheap';cases hheap';have hn':(l.map enc).length=n:=by simp [hn]
   rw [hn'] at htake' q1 hnc' ⊢;have hcells:cells'=cells:=by rw [← htake',← htake]
   subst hcells;have hfl:D.flat (Own C.A0 bs) w k ((l.map enc).set j (enc z)) (cells'.take (j*k)++(Act.eval a y).cells.toList++cells'.drop (j*k+k)):=D.flat_set q3 j (by simpa using hj) hz hsz;refine ⟨_,⟨?_,.inr ⟨g,cap',_,by rw [hh',hn'],yp _,setRow_heap w g cur _ el _ hheap,hnc',hcm',?_,?_⟩⟩,D.flat_fr hfr hWA (λc _ hc=>by rw [hset] at hc;exact hc) _ _ (by rw [List.map_set];exact hfl)⟩
   ·have:=q1.1;simp only [yG,yR,ua,yC,hsz];omega
   ·simp only [uF,yG,yR,ua,yC,hsz,hcs'];omega
   ·rw [hsz,← htake];have l1:(cur.toList.take (j*k)).length=j*k:=by simp;omega
    have l2:((cur.toList.take (j*k))++(Act.eval a y).cells.toList).length=j*k+k:=by simp only [yG,l1,yC,hsz]
    rw [List.take_append,l2,List.take_of_length_le (by rw [l2];exact hjk),List.take_take,Nat.min_eq_left (by omega),List.drop_take]) hfr (.inl rfl) (by simp only [Blk.rep])
  refine ⟨_,_,bs,hrun,.inr ⟨rfl,?_⟩⟩;rw [hset] at hupd;rw [hd];exact hupd
theorem appS {α:Type} {b:Nat} {xs ys zs:List α} (h:app b xs ys=some zs):zs=xs++ys∧(xs.length+ys.length)*b≤140737488355328:=by
 unfold app at h;split at h
 ·cases h;exact ⟨rfl,by assumption⟩
 ·cases h
theorem TriL.app {P:Program} {C:Ctx} {ops:Array Oper} {o:Oper} {rest:List Oper} {Q:Exit→St→Prop} {T:List (Nat×V)} {H:List Blk} {α:Type} {x y:Operand} {t el:TypeId} {i n k bytes d:Nat} {enc:α→D} {xs ys zs:List α}
  (hg:o.guard=none) (ho:o.op = .call { callee:=.builtin .append,args:=#[x,y],argTypes:=#[t,t] }) (hd:o.dst=some d) (hdn:Nat.blt d C.n=true)
  (hx:ev T x=some (.vec i n)) (hi:H[i]? = some (.vec el k (xs.map enc))) (hn:n=xs.length) (hy:ev T y=some (.d (.sl k (ys.map enc)))) (ht:zbW P t el k bytes=true) (hb:Nat.blt 0 bytes=true) (hones:∀ z,(enc z).ones=true)
  (hv:Go.Proofs.YtbnhmfnagdgcmaaGreatDoor.app bytes xs ys=some zs)
  (kk:TriL P C ops rest Q ⟨(d,.vec i zs.length)::T,H.set i (.vec el k (zs.map enc))⟩):TriL P C ops (o::rest) Q ⟨T,H⟩:=by
 obtain ⟨rfl,hsz⟩:=appS hv;simp only [uE] at hb;have hml:xs.length+ys.length≤maxLen:=by
  have:xs.length+ys.length≤(xs.length+ys.length)*bytes:=Nat.le_mul_of_pos_right _ hb;simp only [maxLen];omega
 by_cases hne:ys=[]
 ·subst hne;obtain ⟨htu,hk0,inf,z,hinf,hz,hisz,hib,hzc⟩:=zco ht;refine TriL.step hg (s':=⟨(d,.vec i (xs++[]).length)::T,H⟩) (λbs a w hR=>?_) (by
   have e:H.set i (.vec el k ((xs++[]).map enc))=H:=by
    refine ui λq=>?_
    by_cases hij:i=q
    ·subst hij;rw [yt (yb.1 hi).1,hi,ur]
    ·rw [yv hij]
   rw [e] at kk;exact kk)
  have h1:=hR.ev hx;have h2:=hR.ev hy;have h1':=h1;simp only [V.rep,hi] at h1;obtain ⟨_,h1⟩:=h1;obtain ⟨cells,hown,hbs,hflat⟩:=h1 (by simpa using hn);simp only [V.rep,D.rep] at h2;obtain ⟨ad,cap,hv2,_⟩:=h2;have hsh:∃ b cp,a.eval x = .slice b n cp∧n≤cp:=by
   rcases hown.2 with ⟨h,h0⟩ | ⟨g,cp,cur,h,_,_,hnc,_⟩
   ·exact ⟨none,0,by rw [h,h0],by omega⟩
   ·exact ⟨_,cp,h,hnc⟩
  obtain ⟨b,cp,hv1,hncp⟩:=hsh;simp only [List.map_nil,uz] at hv2;have hrun:(execOp a.eval o).run P w = .ok (.value (a.eval x)) w:=by
   simp only [execOp,ho,resolve,invoke,builtin,Sem.run_bind,Sem.run_pure,Result.andThen_ok];simp only [List.map_toArray,yM,List.map_nil];rw [hv1,hv2];cases ad <;> cases b <;> simp [Builtin.append_,run_underlying htu,sizeOf,typeInfo,hinf,Builtin.lenOf,Builtin.firstCells,loadCells,loadCellsFrom,hncp,storeCells]
  refine ⟨_,w,bs,hrun,.inl ⟨_,rfl,?_⟩⟩;have:=R.put hR (Fr.refl _ _) (some d) (by simpa [dstOK] using hdn) (v:=.vec i n) h1';rw [hd];simpa [St.put,hn] using this
 ·refine TriL.append hg ho hd hdn hx hi (by simpa using hn) hy ht (by simpa using hne) (λz hz=>by obtain ⟨q,_,rfl⟩:=yU.1 hz;exact hones q) (by simpa using hsz) (by simpa using hml) ?_;simpa using kk
end
section
variable [Globs] [Drw]
inductive FrzTs (T:List (Nat×V)) (H:List Blk) (ids:List Nat):List (Nat×D)→Prop
 | nil:FrzTs T H ids []
 | cons {t:Nat} {v:V} {d:D} {r:List (Nat×D)}:look t T=some v→FrzI H ids v d→FrzTs T H ids r→FrzTs T H ids ((t,d)::r)
def frzT:List (Nat×D)→List (Nat×V)→List (Nat×V)
 | [],T=>T
 | (t,d)::r,T=>(t,.d d)::frzT r T
theorem R.freezes {C bs T H a w} (h:R C bs ⟨T,H⟩ a w) {ids}:∀ {ds:List (Nat×D)},FrzTs T H ids ds →
  R C (killBs ids bs) ⟨frzT ds T,Go.Proofs.YtbnhmfnagdgcmaaGreatDoor.killAll ids H⟩ a w
 | _,.nil=>R.killAll ids h
 | _,.cons (t:=t) (v:=v) (d:=d) ht hf r=>by
  have ih:=R.freezes h r;obtain ⟨hn,hv⟩:=h.tmp t v ht;refine ih.know hn ?_;simp only [V.rep];have hsub:∀ b,Own C.A0 (killBs ids bs) b→Own C.A0 bs b:=λb hb=>hb.imp id λhb=>by
   obtain ⟨i,hi⟩:=List.getElem?_of_mem hb;exact yu (ziC ids bs i b hi).2
  refine FrzI.rep h.mem (λb _ hb=>hsub b hb) (λi b hin hi hb=>?_) hf _ hv;rcases hb with hb | hb
  ·exact h.own.not b (yu hi) hb
  ·obtain ⟨j,hj⟩:=List.getElem?_of_mem hb;obtain ⟨hj1,hj2⟩:=ziC ids bs j b hj;have:=h.own.apart i j b hi hj2;subst this;exact hj1 hin
theorem Tri.freezes {P C c Q T H} (ids) {ds} (hf:FrzTs T H ids ds) (k:Tri P C c Q ⟨frzT ds T,killAll ids H⟩):Tri P C c Q ⟨T,H⟩:=⟨λ_ a w hR=>k.run _ a w (hR.freezes hf)⟩
theorem TriL.freezes {P C ops rest Q T H} (ids) {ds} (hf:FrzTs T H ids ds) (k:TriL P C ops rest Q ⟨frzT ds T,killAll ids H⟩):TriL P C ops rest Q ⟨T,H⟩:=⟨λ_ a w hR=>k.run _ a w (hR.freezes hf)⟩
theorem OnesV.ofD {H d} (h:d.ones=true):OnesV H (V.cellsV (.d d)):=by
 have key:∀ ds:List D,(ds.all D.one)=true→OnesV H (ds.map .d):=by
  intro ds
  induction ds with
  | nil=>exact λ_=>.nil
  | cons x xs ih=>intro h;simp only [um,yc] at h;exact .cons (.d h.1) (ih h.2)
 cases d with
 | agg ds=>exact key ds h
 | val v=>
  cases v <;> first | exact .cons (.d h) .nil | simp [D.ones,D.one] at h
 | _=>first | exact .cons (.d h) .nil | simp [D.ones,D.one] at h
theorem ZeroD.cells {P t d} (hz:ZeroD P t d) (h1:d.ones=true):∃ z,zb3 P t=some z∧∀ A w bs H,V.reps A w bs H (V.cellsV (.d d)) z.cells.toList:=by
 obtain ⟨z,h,hr⟩:=hz.out;exact ⟨z,h,λA w bs H=>V.cells_rep (x:=.d d) (by simp only [V.rep];exact hr A w) (OnesV.ofD h1)⟩
theorem R.reblk {C bs T H a w i t cs cs'} (h:R C bs ⟨T,H⟩ a w) (hi:H[i]? = some (.box t cs)) (hr:∀ A bs H vs,V.reps A w bs H cs vs→V.reps A w bs H cs' vs):R C bs ⟨T,H.set i (.box t cs')⟩ a w:=by
 have hblk:=h.blk i _ hi;simp only [Blk.rep] at hblk;obtain ⟨b,vs,hb,hh,hreps⟩:=hblk;have hset:bs.set i (some b)=bs:=by
  refine ui λj=>?_
  by_cases hij:i=j
  ·subst hij;rw [yt (yb.1 hb).1,hb]
  ·rw [yv hij]
 have hfr:Fr (λc=>some b=some c) w w:=Fr.refl _ w;have hWA:∀ c,some b=some c→Own C.A0 bs c:=λc hc=>.inr (by rw [← hc];exact yu hb)
 have hupd:=R.upd (y:=.box t cs') (c':=some b) h hi hb (by simp [Compat]) hfr (.inl rfl) (by
  simp only [Blk.rep];refine ⟨b,vs,by rw [yt (yb.1 hb).1],hh,?_⟩;have:=V.reps_upd (x:=.box t cs) (y:=.box t cs') (c:=some b) (c':=some b) (A':=Own C.A0 (bs.set i (some b))) hi hb (by simp [Compat]) h.own.apart hfr hWA (λc hc=>hc) (λc _ hc=>by rw [hset] at hc;exact hc) cs vs.toList hreps;exact hr _ _ _ _ this)
 rw [hset] at hupd;exact hupd
theorem zeroCells_reps {P t d} (hz:ZeroD P t d) (h1:d.ones=true) {A w bs H vs} (h:V.reps A w bs H (zeroCells P t) vs):V.reps A w bs H (V.cellsV (.d d)) vs:=by
 obtain ⟨z,hzz,hr⟩:=hz.cells h1;unfold zeroCells at h;rw [hzz] at h;have key:∀ (l vs:List Value),V.reps A w bs H (l.map λv=>.d (.val v)) vs→vs=l:=by
  intro l
  induction l with
  | nil=>intro vs h;simpa [V.reps] using h
  | cons x l ih=>
   intro vs h;simp only [yM,V.reps] at h;obtain ⟨v,vs',rfl,h1,h2⟩:=h;rw [zr.1 h1,ih vs' h2]
 rw [key _ _ h];exact hr A w bs H
theorem TriL.rezero {P C ops rest Q T H} (i) {t d} (hi:H[i]? = some (.box t (zeroCells P t))) (hz:ZeroD P t d) (h1:d.ones=true)
  (k:TriL P C ops rest Q ⟨T,H.set i (.box t (V.cellsV (.d d)))⟩):TriL P C ops rest Q ⟨T,H⟩:=⟨λ_ a w hR=>k.run _ a w (hR.reblk hi λ_ _ _ _ h=>zeroCells_reps hz h1 h)⟩
theorem TriL.allocZ {P:Program} {C:Ctx} {ops:Array Oper} {o:Oper} {rest:List Oper} {Q:Exit→St→Prop} {T:List (Nat×V)} {H:List Blk} {t:TypeId} {r:Nat} {d:D}
  (hg:o.guard=none) (ho:o.op = .alloc t) (hd:o.dst=some r) (hn:Nat.blt r C.n=true) (hz:ZeroD P t d) (h1:d.ones=true)
  (k:TriL P C ops rest Q ⟨(r,.loc H.length 0)::T,H++[.box t (V.cellsV (.d d))]⟩):TriL P C ops (o::rest) Q ⟨T,H⟩:=by
 obtain ⟨z,hzz,_⟩:=hz.out;refine TriL.alloc hg ho hd hn hzz ?_;refine TriL.rezero H.length (d:=d) (t:=t) (by
  rw [yD (yn _)];simp [zeroCells,hzz]) hz h1 ?_
 have e:(H++[Blk.box t (z.cells.toList.map λv=>.d (.val v))]).set H.length (.box t (V.cellsV (.d d)))=H++[.box t (V.cellsV (.d d))]:=by
  rw [List.set_append_right _ _ (yn _)];simp
 rw [e];exact k
def D.scal:D→Bool
 | .val _=>true
 | .agg cs=>D.scals cs
 | .tup cs=>D.scals cs
 | _=>false
where D.scals:List D→Bool
 | []=>true
 | d::ds=>D.scal d&&D.scals ds
mutual
theorem D.scal_rep {A A' w w'}:∀ {d:D},d.scal=true→∀ {v:Value},d.rep A w v→d.rep A' w' v
 | .val x,_,v,h=>by simpa only [D.rep] using h
 | .agg cs,hs,v,h=>by
  simp only [D.rep] at h ⊢;obtain ⟨vs,e,hr⟩:=h;exact ⟨vs,e,D.scals_reps (by simpa [D.scal] using hs) hr⟩
 | .tup cs,hs,v,h=>by
  simp only [D.rep] at h ⊢;obtain ⟨vs,e,hr⟩:=h;exact ⟨vs,e,D.scals_reps (by simpa [D.scal] using hs) hr⟩
 | .sl _ _,hs,_,_=>by simp [D.scal] at hs
 | .ref _,hs,_,_=>by simp [D.scal] at hs
 | .fn _ _ _,hs,_,_=>by simp [D.scal] at hs
 | .mp _ _,hs,_,_=>by simp [D.scal] at hs
 | .err,hs,_,_=>by simp [D.scal] at hs
theorem D.scals_reps {A A' w w'}:∀ {ds:List D},D.scal.D.scals ds=true→∀ {vs:List Value},D.reps A w ds vs→D.reps A' w' ds vs
 | [],_,vs,h=>by simpa only [D.reps] using h
 | d::ds,hs,vs,h=>by
  simp only [D.scal.D.scals,yc] at hs;simp only [D.reps] at h ⊢;obtain ⟨v,vs',e,h1,h2⟩:=h;exact ⟨v,vs',e,D.scal_rep hs.1 h1,D.scals_reps hs.2 h2⟩
end
section
variable {P:Program} {o:Oper} {e:Operand→Option V} {H:List Blk}
inductive Lent (e:Operand→Option V) (H:List Blk):List Operand→List D→Prop
 | nil:Lent e H [] []
 | cons {x:Operand} {v:V} {d:D} {xs:List Operand} {ds:List D}:e x=some v→Frz H v d→Lent e H xs ds→Lent e H (x::xs) (d::ds)
theorem Lent.reps {A0 bs w} (m:Mem A0 bs H w) {f}:∀ {xs:List Operand} {ds:List D},Lent e H xs ds→(∀ x∈xs,∀ y,e x=some y→V.rep (Own A0 bs) w bs H y (f x))→D.reps A0 w ds (xs.map f)
 | _,_,.nil,_=>by simp [D.reps]
 | _,_,.cons h1 h2 r,hf=>by
  simp only [yM,D.reps];exact ⟨_,_,rfl,Frz.rep m h2 _ (hf _ (by simp) _ h1),r.reps m λy hy=>hf y (by simp [hy])⟩
theorem OpV.callB {f args tys xs y} (ho:o.op = .call { callee:=.value (.func f),args:=args,argTypes:=tys }) (hc:callable P f=true)
  (ha:Lent e H args.toList xs) (hy:y.scal=true) (hp:Pure P f xs y):OpV P o e H (.d y):=by
 refine ⟨λA0 bs w g m hf _ hk=>?_⟩;have hrun:(execOp g o).run P w = .ok (.enter f (args.map g)) w:=by
  simp only [execOp,ho,resolve,hk,Deferred.ofValue,Sem.run_bind,Sem.run_pure,Result.andThen_ok,invoke];simpa using zbt hc (args.map g) w
 rw [hrun];have hreps:D.reps A0 w xs (args.map g).toList:=by
  have:=ha.reps (w:=w) (f:=g) m (λx hx=>hf x (by simp [ho,Op.operands,Call.operands];right;simpa using hx));simpa using this
 exact (hp.run A0 w (args.map g) (λb hb=>m.own.foreign b hb) (m.own.glob.fr (Fr.refl zd w) (λ_ x=>x.elim) (λ_ _ h=>.inl h)) hreps).mono λe' w' ⟨u,he,hfr,hr⟩=>⟨u,he,hfr,by simp only [V.rep];exact D.scal_rep hy hr⟩
structure Dyn (P:Program) (F:D) (xs:List D) (y:D):Prop where
 ex:∃ g caps,F = .fn (.func g) [] caps∧callable P g=true∧Pure P g (xs++caps) y
theorem OpV.makeFunc {g cs ds} (ho:o.op = .makeFunc (.func g) #[] cs) (hc:evs e cs.toList=some ds):OpV P o e H (.d (.fn (.func g) [] ds)):=
 .of_same λA0 bs w f _ hf=>by
  refine ⟨.func (.func g) #[] (cs.map f),by simp [execOp,ho,Instr.makeFunc],?_⟩;simp only [V.rep,D.rep];refine ⟨#[],cs.map f,rfl,by simp [D.reps],?_⟩;have:=zgP (A:=Own A0 bs) (w:=w) (bs:=bs) (f:=f) hc (λx hx=>hf x (by simp [ho,Op.operands];simpa using hx));simpa using this
theorem OpV.dyn {x args tys F xs y} (ho:o.op = .call { callee:=.value x,args:=args,argTypes:=tys }) (hx:e x=some (.d F))
  (ha:evs e args.toList=some xs) (hp:Dyn P F xs y):OpV P o e H (.d y):=by
 obtain ⟨g,caps,rfl,hc,hp⟩:=hp.ex;refine ⟨λA0 bs w f m hf _ hk=>?_⟩;have h1:=hf x (by simp [ho,Op.operands,Call.operands]) _ hx;simp only [V.rep,D.rep] at h1;obtain ⟨vs,us,hv,hr1,hr2⟩:=h1;simp only [D.reps] at hr1;have hvs:vs = #[]:=by simpa using hr1
 subst hvs;have hrun:(execOp f o).run P w = .ok (.enter g (args.map f++us)) w:=by
  simp only [execOp,ho,resolve,hv,Deferred.ofValue,Sem.run_bind,Sem.run_pure,Result.andThen_ok,invoke];simpa using zbt hc (args.map f++us) w
 rw [hrun];have hreps:D.reps (Own A0 bs) w (xs++caps) (args.map f++us).toList:=by
  have:=zgP (A:=Own A0 bs) (w:=w) (bs:=bs) (f:=f) ha (λx hx=>hf x (by simp [ho,Op.operands,Call.operands];right;simpa using hx));have:=D.reps_append this hr2;simpa using this
 refine (hp.run (Own A0 bs) w (args.map f++us) (λb hb=>?_) m.own.glob hreps).mono λe' w' ⟨u,he,hfr,hr⟩=>⟨u,he,hfr,by simpa only [V.rep] using hr⟩
 rcases hb with hb | hb
 ·exact m.own.foreign b hb
 ·exact m.own.lt b hb
end
end
section
variable [Globs] [Drw]
def over:List Blk→List (Nat×Blk)→List Blk
 | H,[]=>H
 | H,(i,b)::r=>over (H.set i b) r
theorem over_len:∀ (L:List (Nat×Blk)) (H:List Blk),(over H L).length=H.length
 | [],_=>rfl
 | (i,b)::r,H=>by rw [over,over_len r];simp
section
variable {P:Program} {C:Ctx} {Q:Exit→St→Prop} {s:St}
theorem Tri.condS {R:Type} {c x y} {b:Bool} {m n:Option R} {r:R} (hc:ev s.T c=some (.d (.bool b))) (h:(if b=true then m else n)=some r)
  (ht:m=some r→Tri P C x Q s) (hf:n=some r→Tri P C y Q s):Tri P C (.cond c x y) Q s:=
 .cond hc (λhb=>ht (iteT hb h)) (λhb=>hf (iteF hb h))
def joinQ {σ R:Type} (k:σ→Option R) (r:R) (J:σ→St) (Q:Exit→St→Prop):Exit→St→Prop
 | .normal,s=>∃ v,k v=some r∧s.ge (J v)
 | e,s=>Q e s
theorem Tri.join {σ R:Type} {x y} {k:σ→Option R} {m:(σ→Option R)→Option R} {r:R} (ks:List Nat) {K} (upd:σ→List (Nat×V)) (hf:σ→List (Nat×Blk)) (_hK:Looks s.T ks K) (h:jn k m=some r)
  (hm:∀ k':σ→Option R,m k'=some r→Tri P C x (joinQ k' r (λv=>⟨upd v++K,over s.H (hf v)⟩) Q) s)
  (hk:∀ v,k v=some r→Tri P C y Q ⟨upd v++K,over s.H (hf v)⟩) (hgn:Nat.ble C.gn s.H.length=true:=by exact rfl):Tri P C (.seq x y) Q s:=by
 refine .seq (Tri.mono (hm k h) λe s' hq=>?_);cases e <;> simp only [joinQ,thenQ] at hq ⊢
 case normal=>
  obtain ⟨v,hv,hg⟩:=hq;exact Tri.ge hg (hk v hv) (by simp only [over_len];exact hgn)
 all_goals exact hq
theorem Tri.loopS {σ R:Type} {c} {body:(σ→Option R)→σ→Option R} {n:Nat} {init:σ} {r:R} (ks:List Nat) {K} (upd:σ→List (Nat×V)) (hf:σ→List (Nat×Blk)) (_hK:Looks s.T ks K) (h:loopF body n init=some r)
  (h0:s.ge ⟨upd init++K,over s.H (hf init)⟩)
  (hb:∀ (rec:σ→Option R) (v:σ),body rec v=some r→Tri P C c (joinQ rec r (λv=>⟨upd v++K,over s.H (hf v)⟩) Q) ⟨upd v++K,over s.H (hf v)⟩) (hgn:Nat.ble C.gn s.H.length=true:=by exact rfl):Tri P C (.loop c) Q s:=by
 refine Tri.loopP n (λi s'=>∃ u,loopF body (n - i) u=some r∧s'.ge ⟨upd u++K,over s.H (hf u)⟩) ⟨init,by simpa using h,h0⟩ λi s' hi hs=>?_
 obtain ⟨u,hu,hg⟩:=hs;refine Tri.ge hg ?_ (by simp only [over_len];exact hgn);cases hni:n - i with
 | zero=>rw [hni] at hu;simp [loopF] at hu
 | succ m=>
  rw [hni] at hu;simp only [loopF] at hu;refine Tri.mono (hb _ u hu) λe s'' hq=>?_
  cases e <;> simp only [joinQ,thenQ] at hq ⊢
  case normal=>
   obtain ⟨v',hv',hg'⟩:=hq;exact ⟨by omega,v',by rw [show n - (i+1)=m by omega];exact hv',hg'⟩
  all_goals exact hq
end
theorem zaH {P:Program} {t:Tmp} {y:D} {v:V} {s:St} (h:look t s.T=some v) (hf:Frz s.H v y):retQ P #[.tmp t] y .ret s:=⟨.inl rfl,[y],rfl,y,[],v,rfl,h,hf,rfl⟩
theorem retCell {P:Program} {t:Tmp} {ty:TypeId} {ds:List D} {i:Nat} {T:TypeId} {cs:List V} {s:St} (h:look t s.T=some (.loc i 0)) (hi:s.H[i]? = some (.box T cs)) (hs:zE P ty=some (some ds.length)) (hf:Frzs s.H cs ds):retQ P #[.cell t ty] (.agg ds) .ret s:=
 ⟨.inl rfl,[.agg ds],rfl,.agg ds,[],i,T,cs,rfl,h,hi,hs,.loc hi hf,rfl⟩
theorem zcQ {P:Program} {t u:Tmp} {x y:D} {v w:V} {s:St} (h1:look t s.T=some v) (h2:look u s.T=some w) (f1:Frz s.H v x) (f2:Frz s.H w y):retQ P #[.tmp t,.tmp u] (.tup [x,y]) .ret s:=
 ⟨.inl rfl,[x,y],rfl,x,[y],v,rfl,h1,f1,y,[],w,rfl,h2,f2,rfl⟩
theorem zgV {P:Program} {t u q:Tmp} {x y z:D} {v w a:V} {s:St} (h1:look t s.T=some v) (h2:look u s.T=some w) (h3:look q s.T=some a) (f1:Frz s.H v x) (f2:Frz s.H w y) (f3:Frz s.H a z):retQ P #[.tmp t,.tmp u,.tmp q] (.tup [x,y,z]) .ret s:=
 ⟨.inl rfl,[x,y,z],rfl,x,[y,z],v,rfl,h1,f1,y,[z],w,rfl,h2,f2,z,[],a,rfl,h3,f3,rfl⟩
theorem zdA {P:Program} {t u:Tmp} {ty:TypeId} {ds:List D} {i:Nat} {T:TypeId} {cs:List V} {y:D} {v:V} {s:St} (h:look t s.T=some (.loc i 0)) (hi:s.H[i]? = some (.box T cs)) (hs:zE P ty=some (some ds.length)) (hf:Frzs s.H cs ds)
  (h2:look u s.T=some v) (f2:Frz s.H v y):retQ P #[.cell t ty,.tmp u] (.tup [.agg ds,y]) .ret s:=
 ⟨.inl rfl,[.agg ds,y],rfl,.agg ds,[y],i,T,cs,rfl,h,hi,hs,.loc hi hf,y,[],v,rfl,h2,f2,rfl⟩
theorem retCell1 {P:Program} {t:Tmp} {ty:TypeId} {d:D} {i:Nat} {T:TypeId} {c:V} {s:St} (h:look t s.T=some (.loc i 0)) (hi:s.H[i]? = some (.box T [c])) (hs:zE P ty=some none) (hf:Frz s.H c d) (h1:d.shape=none:=by rfl):retQ P #[.cell t ty] d .ret s:=
 ⟨.inl rfl,[d],rfl,d,[],i,T,[c],rfl,h,hi,by rw [hs,h1],.loc1 hi hf h1,rfl⟩
end
section
variable [Globs] [Drw]
def wk (k:IntKind) (x:Int):Int:=k.wrap x
def gmax (x y:Int):Int:=if y > x then y else x
theorem impT {b c} (h:(!b||c)=true) (hb:b=true):c=true:=by subst hb;simpa using h
theorem impF {b c} (h:(b||c)=true) (hb:b=false):c=true:=by subst hb;simpa using h
section
variable {P:Program} {o:Oper} {e:Operand→Option V} {H:List Blk}
theorem OpV.castD {d0} (d) (he:d0=d) (h:OpV P o e H (.d d0)):OpV P o e H (.d d):=he▸h
theorem OpV.nilS {α:Type} (k:Nat) (enc:α→D) (ho:o.op = .assign (.const (.slice none 0 0))):OpV P o e H (.d (.sl k (List.map enc []))):=
 ⟨λA0 bs w f m _ hc _=>by
  have hrun:(execOp f o).run P w = .ok (.value (.slice none 0 0)) w:=by simp [execOp,ho,hc]
  rw [hrun];refine ⟨Fr.refl _ w,?_⟩;simp only [V.rep,D.rep,List.map_nil];exact ⟨none,0,rfl,yn _,.inl trivial⟩⟩
theorem OpV.max2 {x y tys a b k} (ho:o.op = .call { callee:=.builtin .max,args:=#[x,y],argTypes:=tys }) (hx:e x=some (.d (.val (.int k a)))) (hy:e y=some (.d (.val (.int k b)))):OpV P o e H (.d (.val (.int k (gmax a b)))):=
 .of_same λ_ _ w f _ hf=>by
  have h1:=zr.1 (hf x (by simp [ho,Op.operands,Call.operands]) _ hx);have h2:=zr.1 (hf y (by simp [ho,Op.operands,Call.operands]) _ hy);exact ⟨.int k (gmax a b),by simp [execOp,ho,resolve,invoke,builtin,Builtin.max_,Builtin.max2,h1,h2,gmax],zr.2 rfl⟩
end
theorem TriL.buildVecLe {P:Program} {C:Ctx} {ops:Array Oper} {o:Oper} {rest:List Oper} {Q:Exit→St→Prop} {T:List (Nat×V)} {H:List Blk} {α:Type} {t el:TypeId} {len k bytes d:Nat} {parts:Array (Nat×Operand)} {enc:α→D} {ys:List D} (xs:List α)
  (hg:o.guard=none) (ho:o.op = .buildSlice t len parts) (hd:o.dst=some d) (hdn:Nat.blt d C.n=true) (hp:parts.toList.map (·.1)=List.range' 0 len) (he:zbW P t el k bytes=true) (hx:evs (ev T) (parts.toList.map (·.2))=some ys) (hle:D.Les ys (xs.map enc))
  (hk:∀ x,(enc x).kOK k=true) (hl:Nat.ble (len*k) 16777216=true)
  (kk:TriL P C ops rest Q ⟨(d,.vec H.length xs.length)::T,H++[.vec el k (xs.map enc)]⟩):TriL P C ops (o::rest) Q ⟨T,H⟩:=by
 obtain ⟨htu,hk0,inf,z,hinf,hz,hisz,hib,hzc⟩:=zco he;refine TriL.step hg (λbs a w hR=>?_) kk;have hreps:D.reps (Own C.A0 bs) w (xs.map enc) ((parts.toList.map (·.2)).map a.eval):=hle.reps (zgP (H:=H) hx (λx _ y hy=>hR.ev hy));have hcells:=D.flat_of_reps hreps (k:=k) (by intro d hd;obtain ⟨x,_,rfl⟩:=yU.1 hd;exact hk x);have hlen:=congrArg List.length hp;simp only [yS,List.length_range',yC] at hlen;have hkk:∀ u∈(parts.toList.map (·.2)).map a.eval,u.cells.size=k:=by
  intro u hu;obtain ⟨i,hi,rfl⟩:=List.getElem_of_mem hu;have hl2:=D.reps_len hreps;have hi':i<(xs.map enc).length:=by rw [← hl2];exact hi
  obtain ⟨v,hv,hr⟩:=D.reps_get hreps i (xs.map enc)[i] (yA hi');rw [yA hi] at hv;cases hv;rw [List.getElem_map] at hr;exact D.kOK_cells hr (hk _)
 obtain ⟨cells,g1,g2⟩:=zhn (P:=P) (w:=w) (k:=k) htu hinf hz hisz hzc hkk (by
  have:=yi hl;simp only [yS,yC,hlen];omega)
 have hzip:=zip_fst (β:=D) parts.toList 0 (by rw [hp];simp [hlen]);have harr:(parts.map λ(i,x)=>(i,a.eval x))=((((parts.toList.map (·.2)).map a.eval).zipIdx 0).map λp=>(p.2,p.1)).toArray:=by
  apply Array.ext';rw [Array.toList_map]
  conv=>lhs;rw [hzip]
  simp only [List.zipIdx_map,uL];rfl
 have hrun:(execOp a.eval o).run P w = .ok (.value (.slice (some ⟨w.heap.size,0,none⟩) len len)) (w.alloc (.cells cells el)):=by
  simp only [yS,yC,hlen] at g2;simp only [execOp,ho,Sem.run_bind,harr,g2,Result.andThen_ok,Sem.run_pure]
 have hxl:xs.length=len:=by have:=D.reps_len hreps;simp at this;omega
 have hcl:cells.size=len*k:=by
  have:=D.flat_len hcells;rw [← g1] at this;simp only [yC,yS] at this;rw [this,hxl]
 refine ⟨_,_,bs++[some w.heap.size],hrun,.inl ⟨_,rfl,?_⟩⟩;have hcap:len≤maxLen:=by
  have h1:=yi hl;have h2:len≤len*k:=Nat.le_mul_of_pos_right _ hk0;simp only [maxLen];omega
 have:=hR.newVec (el:=el) (k:=k) (n:=len) (cap:=len) (r:=d) (cells:=cells) (xs:=xs.map enc) (by simpa using hdn) (by simp [hxl]) hcl (yn _) hcap (by
  rw [List.take_of_length_le (by rw [yC,hcl];exact yn _),g1];exact hcells)
 rw [hd,hxl];exact this
theorem TriL.buildVec {P:Program} {C:Ctx} {ops:Array Oper} {o:Oper} {rest:List Oper} {Q:Exit→St→Prop} {T:List (Nat×V)} {H:List Blk} {α:Type} {t el:TypeId} {len k bytes d:Nat} {parts:Array (Nat×Operand)} {enc:α→D} (xs:List α)
  (hg:o.guard=none) (ho:o.op = .buildSlice t len parts) (hd:o.dst=some d) (hdn:Nat.blt d C.n=true) (hp:parts.toList.map (·.1)=List.range' 0 len) (he:zbW P t el k bytes=true) (hx:evs (ev T) (parts.toList.map (·.2))=some (xs.map enc))
  (hk:∀ x,(enc x).kOK k=true) (hl:Nat.ble (len*k) 16777216=true)
  (kk:TriL P C ops rest Q ⟨(d,.vec H.length xs.length)::T,H++[.vec el k (xs.map enc)]⟩):TriL P C ops (o::rest) Q ⟨T,H⟩:=
 TriL.buildVecLe xs hg ho hd hdn hp he hx (.refls _) hk hl kk
theorem R.nilCell {C bs T H a w j c k t el cs} (h:R C bs ⟨T,H⟩ a w) (hj:H[j]? = some (.box t cs)) (hc:cs[c]? = some .nilS) :
  R C (bs++[none]) ⟨T,(H++[Blk.vec el k []]).set j (.box t (cs.set c (.vec H.length 0)))⟩ a w:=by
 have h1:R C (bs++[none]) ⟨T,H++[.vec el k []]⟩ a w:=h.snocNone λ_ _ _=>by simp only [Blk.rep]
 have hlen:=h.len;simp only at hlen;have hjl:=(yb.1 hj).1;have hj':(H++[Blk.vec el k []])[j]? = some (.box t cs):=by rw [yg hjl];exact hj
 have hblk:=h1.blk j _ hj';simp only [Blk.rep] at hblk;obtain ⟨b,vs,hb,hh,hreps⟩:=hblk;have hset:(bs++[none]).set j (some b)=bs++[none]:=by
  refine ui λq=>?_
  by_cases hij:j=q
  ·subst hij;rw [yt (yb.1 hb).1,hb]
  ·rw [yv hij]
 have hfr:Fr (λq=>some b=some q) w w:=Fr.refl _ w;have hWA:∀ q,some b=some q→Own C.A0 (bs++[none]) q:=λq hq=>.inr (by rw [← hq];exact yu hb)
 have hupd:=R.upd (y:=.box t (cs.set c (.vec H.length 0))) (c':=some b) h1 hj' hb (by simp [Compat]) hfr (.inl rfl) (by
  simp only [Blk.rep];refine ⟨b,vs,by rw [yt (yb.1 hb).1],hh,?_⟩;have:=V.reps_upd (x:=.box t cs) (y:=.box t (cs.set c (.vec H.length 0))) (c:=some b) (c':=some b) (A':=Own C.A0 ((bs++[none]).set j (some b))) hj' hb (by simp [Compat]) h1.own.apart hfr hWA (λq hq=>hq) (λq _ hq=>by rw [hset] at hq;exact hq) cs vs.toList hreps;generalize hG:(H++[Blk.vec el k []]).set j (.box t (cs.set c (.vec H.length 0)))=G at this ⊢;have hGv:G[H.length]? = some (.vec el k []):=by
   rw [← hG,yv (by omega),yD (yn _)];simp
  rw [hset] at this ⊢;clear hG;have key:∀ (cs:List V) (us:List Value) (c:Nat),V.reps (Own C.A0 (bs++[none])) w (bs++[none]) G cs us→cs[c]? = some .nilS→V.reps (Own C.A0 (bs++[none])) w (bs++[none]) G (cs.set c (.vec H.length 0)) us:=by
   intro cs
   induction cs with
   | nil=>intro us c _ hc;simp at hc
   | cons x cs ih=>
    intro us c hr hc;simp only [V.reps] at hr;obtain ⟨v,vs',rfl,h2,h3⟩:=hr;cases c with
    | zero=>
     simp only [y6,yh] at hc;subst hc;simp only [List.set_cons_zero,V.reps];refine ⟨v,vs',rfl,?_,h3⟩;have hv:=zr.1 h2;subst hv;simp only [V.rep,hGv];exact ⟨yn _,λ_=>⟨[],World.ownsRow_nil w 0 el k,by rw [← hlen];simp [Value.ownBlock],by simp [D.flat]⟩⟩
    | succ c=>
     simp only [List.set_cons_succ,V.reps];exact ⟨v,vs',rfl,h2,ih vs' c h3 (by simpa using hc)⟩
  exact key cs _ c this hc)
 rw [hset] at hupd;exact hupd
theorem TriL.nilCell {P C ops rest Q T H} (j c k el) {t cs} (hj:H[j]? = some (.box t cs)) (hc:cs[c]? = some .nilS)
  (kk:TriL P C ops rest Q ⟨T,(H++[Blk.vec el k []]).set j (.box t (cs.set c (.vec H.length 0)))⟩):TriL P C ops rest Q ⟨T,H⟩:=⟨λ_ a w hR=>kk.run _ a w (hR.nilCell hj hc)⟩
section
variable {P:Program} {n:Nat} {ops:Array Oper} {H:List Blk} {l:List Oper} {p:Oper} {rest:List Oper} {al:List Ev} {T:List (Nat×V)} {K:List Ev→List (Nat×V)→Prop}
theorem TriQ.jAnd (m:Nat) {b b2:Bool} {g r d:Nat} (hl:l.drop m=p::rest) (hp:p.op = .pick (.tmp g) (.tmp r) (.const (.bool false)))
  (hb:look g T=some (.d (.bool b))) (hs:zfW ops n g true (l.take m) []=true) (hrun:Runs ops p T) (hgp:∀ j w g',p.guard=some (j,w)→(ops[j]?).bind (·.dst)=some g'→g'∉dsts (l.take m)) (hd:p.dst=some d) (hn:Nat.blt d n=true)
  (h1:b=true→TriQ P n ops H (l.take m) al ((g,.d (.bool true))::T) (λ_ T'=>look r T'=some (.d (.bool b2))))
  (h2:TriQ P n ops H rest al ((d,.d (.bool (b&&b2)))::junks (dsts (l.take m)) T) K):TriQ P n ops H l al T K:=
 TriQ.junction m (want:=true) hl hp ⟨rfl,rfl⟩ hb hs hrun hgp hd hn h1 h2
theorem TriQ.jOr (m:Nat) {b b2:Bool} {g r d:Nat} (hl:l.drop m=p::rest) (hp:p.op = .pick (.tmp g) (.const (.bool true)) (.tmp r))
  (hb:look g T=some (.d (.bool b))) (hs:zfW ops n g false (l.take m) []=true) (hrun:Runs ops p T) (hgp:∀ j w g',p.guard=some (j,w)→(ops[j]?).bind (·.dst)=some g'→g'∉dsts (l.take m)) (hd:p.dst=some d) (hn:Nat.blt d n=true)
  (h1:b=false→TriQ P n ops H (l.take m) al ((g,.d (.bool false))::T) (λ_ T'=>look r T'=some (.d (.bool b2))))
  (h2:TriQ P n ops H rest al ((d,.d (.bool (b||b2)))::junks (dsts (l.take m)) T) K):TriQ P n ops H l al T K:=
 TriQ.junction m (want:=false) hl hp ⟨rfl,rfl⟩ hb hs hrun hgp hd hn h1 h2
end
end
section
variable [Globs] [Drw]
theorem cutS {α:Type} {l:List α} {lo hi:Int} {r:List α} (h:cut l lo hi=some r):∃ a b:Nat,lo=(a:Int)∧hi=(b:Int)∧a≤b∧b≤l.length∧r=(l.drop a).take (b - a):=by
 unfold cut at h;split at h
 ·rename_i h0;obtain ⟨h1,h2,h3⟩:=h0;obtain ⟨a,rfl⟩:=yQ h1;obtain ⟨b,rfl⟩:=yQ (Int.le_trans h1 h2);cases h;exact ⟨a,b,rfl,rfl,by omega,by omega,by simp⟩
 ·cases h
theorem zft (l:List UInt8) (a b):(⟨l.toArray⟩:ByteArray).extract a b=⟨((l.drop a).take (b - a)).toArray⟩:=by
 apply ByteArray.ext;rw [ByteArray.data_extract];apply Array.ext';simp [List.extract_eq_take_drop]
section
variable {P:Program} {o:Oper} {e:Operand→Option V} {H:List Blk}
theorem OpV.cutStrLH {t x y z} {l r:List UInt8} {lo hi:Int} (ho:o.op = .slice t x (some y) (some z) none) (hx:e x=some (.d (.str l))) (hy:e y=some (.d (.int lo))) (hz:e z=some (.d (.int hi))) (ht:P.underlying t=some .string) (hr:cut l lo hi=some r):OpV P o e H (.d (.str r)):=by
 obtain ⟨a,b,rfl,rfl,h1,h2,rfl⟩:=cutS hr;refine .of_same λA0 bs w f _ hf=>?_
 have e1:=zr.1 (hf x (by simp [ho,Op.operands]) _ hx);have e2:=zr.1 (hf y (by simp [ho,Op.operands]) _ hy);have e3:=zr.1 (hf z (by simp [ho,Op.operands]) _ hz);refine ⟨_,?_,zr.2 rfl⟩;have h2':b≤(⟨l.toArray⟩:ByteArray).size:=h2;simp [execOp,ho,e1,e2,e3,run_sliceAt_string w t _ _ _ _ ht,Instr.slice,run_underlying ht,Instr.sliceBounds,Instr.sliceBound,asIntOf,h2',h1,zft]
theorem OpV.cutStrL {t x y} {l r:List UInt8} {lo:Int} (ho:o.op = .slice t x (some y) none none) (hx:e x=some (.d (.str l))) (hy:e y=some (.d (.int lo))) (ht:P.underlying t=some .string) (hr:cut l lo (l.length:Int)=some r):OpV P o e H (.d (.str r)):=by
 obtain ⟨a,b,rfl,hb,h1,h2,rfl⟩:=cutS hr;have hb':l.length=b:=by omega
 subst hb';refine .of_same λA0 bs w f _ hf=>?_
 have e1:=zr.1 (hf x (by simp [ho,Op.operands]) _ hx);have e2:=zr.1 (hf y (by simp [ho,Op.operands]) _ hy);refine ⟨_,?_,zr.2 rfl⟩;have hs:(⟨l.toArray⟩:ByteArray).size=l.length:=rfl;simp [execOp,ho,e1,e2,run_sliceAt_string w t _ _ _ _ ht,Instr.slice,run_underlying ht,Instr.sliceBounds,Instr.sliceBound,asIntOf,hs,h1,zft]
theorem OpV.cutStrH {t x z} {l r:List UInt8} {hi:Int} (ho:o.op = .slice t x none (some z) none) (hx:e x=some (.d (.str l))) (hz:e z=some (.d (.int hi))) (ht:P.underlying t=some .string) (hr:cut l 0 hi=some r):OpV P o e H (.d (.str r)):=by
 obtain ⟨a,b,ha,rfl,h1,h2,rfl⟩:=cutS hr;have ha':a=0:=by omega
 subst ha';refine .of_same λA0 bs w f _ hf=>?_
 have e1:=zr.1 (hf x (by simp [ho,Op.operands]) _ hx);have e3:=zr.1 (hf z (by simp [ho,Op.operands]) _ hz);refine ⟨_,?_,zr.2 rfl⟩;have h2':b≤(⟨l.toArray⟩:ByteArray).size:=h2;simp [execOp,ho,e1,e3,run_sliceAt_string w t _ _ _ _ ht,Instr.slice,run_underlying ht,Instr.sliceBounds,Instr.sliceBound,asIntOf,h2',zft]
theorem OpV.cutSlL {α:Type} {t el x y} {k:Nat} {l r:List α} {enc:α→D} {lo:Int} (ho:o.op = .slice t x (some y) none none) (hx:e x=some (.d (.sl k (l.map enc)))) (hy:e y=some (.d (.int lo))) (ht:P.underlying t=some (.slice el)) (hs:(P.info? el).map (·.size)=some k) (hr:cut l lo (l.length:Int)=some r):OpV P o e H (.d (.sl k (r.map enc))):=by
 obtain ⟨a,b,rfl,hb,h1,h2,rfl⟩:=cutS hr;have hb':l.length=b:=by omega
 subst hb';refine .of_same λA0 bs w f _ hf=>?_
 have e1:=hf x (by simp [ho,Op.operands]) _ hx;have e2:=zr.1 (hf y (by simp [ho,Op.operands]) _ hy);simp only [V.rep,D.rep] at e1;obtain ⟨ad,cap,hp,hcap,hrow⟩:=e1;cases hinf:P.info? el with
 | none=>simp [hinf] at hs
 | some inf=>
  have hsz:inf.size=k:=by simpa [hinf] using hs
  have hel:P.elem t=el:=by simp [Program.elem,ht]
  have hck:P.cellsOf el=k:=by simp [Program.cellsOf,hinf,hsz]
  refine ⟨sliced ad a l.length cap k,?_,?_⟩
  ·have:=run_slice_l (P:=P) w t ad l.length cap (by rw [hel];exact ht) .i64 a (by omega) (by omega);rw [hel,run_sizeOf w hinf,hck] at this;simp only [yq,Result.andThen_ok] at this;simp only [yS] at hp;simp only [execOp,ho,hp,e2,yT,Option.map_none,Sem.run_bind,run_sliceAt_slice w t _ _ _ _ (by rw [hel];exact ht),this,Result.andThen_ok,Sem.run_pure]
  ·have hlen:(l.drop a).take (l.length - a)=l.drop a:=List.take_of_length_le (by simp);rw [hlen];simp only [V.rep,D.rep,sliced];simp only [yS] at hcap;refine ⟨if cap=a then ad else ad.map (·.add (a*k)),cap - a,by simp,by simp;omega,?_⟩;by_cases hnil:l.drop a=[]
   ·exact .inl (by simp [hnil])
   ·right;rcases hrow with hrow | ⟨bl,off,rfl,hnb,hlt,hrow⟩
    ·simp at hrow;subst hrow;simp at hnil
    ·have hd:=D.row_drop a _ _ hrow;by_cases hm:cap=a
     ·exact absurd (List.drop_eq_nil_of_le (by omega)) hnil
     ·rw [if_neg hm];exact ⟨bl,off+a*k,by simp [Addr.add_lit],hnb,hlt,by simpa using hd⟩
theorem OpV.cutSlH {α:Type} {t el x z} {k:Nat} {l r:List α} {enc:α→D} {hi:Int} (ho:o.op = .slice t x none (some z) none) (hx:e x=some (.d (.sl k (l.map enc)))) (hz:e z=some (.d (.int hi))) (ht:P.underlying t=some (.slice el)) (hs:(P.info? el).map (·.size)=some k) (hr:cut l 0 hi=some r):OpV P o e H (.d (.sl k (r.map enc))):=by
 obtain ⟨a,b,ha,rfl,h1,h2,rfl⟩:=cutS hr;have ha':a=0:=by omega
 subst ha';refine .of_same λA0 bs w f _ hf=>?_
 have e1:=hf x (by simp [ho,Op.operands]) _ hx;have e2:=zr.1 (hf z (by simp [ho,Op.operands]) _ hz);simp only [V.rep,D.rep] at e1;obtain ⟨ad,cap,hp,hcap,hrow⟩:=e1;simp only [yS] at hp hcap;cases hinf:P.info? el with
 | none=>simp [hinf] at hs
 | some inf=>
  have hsz:inf.size=k:=by simpa [hinf] using hs
  have hel:P.elem t=el:=by simp [Program.elem,ht]
  have hck:P.cellsOf el=k:=by simp [Program.cellsOf,hinf,hsz]
  refine ⟨sliced ad 0 b cap k,?_,?_⟩
  ·have:=run_slice_h (P:=P) w t ad l.length cap (by rw [hel];exact ht) .i64 b (by omega) (by omega);rw [hel,run_sizeOf w hinf,hck] at this;simp only [yq,Result.andThen_ok] at this;simp only [execOp,ho,hp,e2,yT,Option.map_none,Sem.run_bind,run_sliceAt_slice w t _ _ _ _ (by rw [hel];exact ht),this,Result.andThen_ok,Sem.run_pure]
  ·simp only [List.drop_zero,Nat.sub_zero,V.rep,D.rep,sliced];refine ⟨if cap=0 then ad else ad.map (·.add (0*k)),cap,by simp [Nat.min_eq_left h2],by simp;omega,?_⟩;by_cases hb:b=0
   ·exact .inl (by simp [hb])
   ·right;rcases hrow with hrow | ⟨bl,off,rfl,hnb,hlt,hrow⟩
    ·simp at hrow;subst hrow;simp at h2;omega
    ·refine ⟨bl,off,?_,hnb,hlt,?_⟩
     ·by_cases hc:cap=0
      ·rw [if_pos hc]
      ·rw [if_neg hc];simp [Addr.add_lit]
     ·have:=D.row_take b _ _ hrow
      rwa [← List.map_take] at this
end
end
section
variable [Globs] [Drw]
def eqV:Value→Value→Bool
 | .bool a,.bool b=>a==b
 | .int _ a,.int _ b=>a==b
 | .string a,.string b=>a.toList==b.toList
 | _,_=>false
def eqVs:List Value→List Value→Bool
 | [],[]=>true
 | x::xs,y::ys=>eqV x y&&eqVs xs ys
 | _,_=>false
def okLeaf:TypeDesc→Value→Bool
 | .bool,.bool _=>true
 | .int k,.int j _=>decide (j=k)
 | .string,.string _=>true
 | _,_=>false
def zaK:List TypeDesc→List Value→Bool
 | [],[]=>true
 | d::ds,v::vs=>okLeaf d v&&zaK ds vs
 | _,_=>false
def flatFs (rec:TypeId→Option (List TypeDesc)):List Field→Nat→Option (List TypeDesc)
 | [],_=>some []
 | f :: fs, off => if f.name = "_" ∨ f.offset ≠ off then none else match rec f.type with
  | none=>none
  | some l=>match flatFs rec fs (off+l.length) with
   | none=>none
   | some r=>some (l++r)
def flatT (P:Program):Nat→TypeId→Option (List TypeDesc)
 | 0,_=>none
 | d+1,t=>match P.underlying t with
  | some (.struct fs)=>if P.stoodInHeld t=true then none else match flatFs (flatT P d) fs.toList 0 with
   | none=>none
   | some l=>if (P.info? t).map (·.size)=some l.length then some l else none
  | some .bool=>some [.bool]
  | some (.int k)=>some [.int k]
  | some .string=>some [.string]
  | _=>none
theorem zb4:∀ {ls:List TypeDesc} {vs:List Value},zaK ls vs=true→vs.length=ls.length
 | [],[],_=>rfl
 | _::_,_::_,h=>by simp only [zaK,yc] at h;simp [zb4 h.2]
 | [],_::_,h=>by simp [zaK] at h
 | _::_,[],h=>by simp [zaK] at h
theorem zeq:∀ {l r:List TypeDesc} {vs:List Value},zaK (l++r) vs=true→zaK l (vs.take l.length)=true∧zaK r (vs.drop l.length)=true
 | [],r,vs,h=>by simpa [zaK] using h
 | d::l,r,[],h=>by simp [zaK] at h
 | d::l,r,v::vs,h=>by
  simp only [y7,zaK,yc] at h;have:=zeq (l:=l) h.2;simp only [yJ,List.take_succ_cons,List.drop_succ_cons,zaK,yc];exact ⟨⟨h.1,this.1⟩,this.2⟩
theorem eqVs_split:∀ (n:Nat) (xs ys:List Value),xs.length=ys.length→eqVs xs ys=(eqVs (xs.take n) (ys.take n)&&eqVs (xs.drop n) (ys.drop n))
 | 0,xs,ys,_=>by simp [eqVs]
 | n+1,[],[],_=>by simp [eqVs]
 | n+1,x::xs,y::ys,h=>by
  simp only [eqVs,List.take_succ_cons,List.drop_succ_cons,eqVs_split n xs ys (by simpa using h),Bool.and_assoc]
 | n+1,[],_::_,h=>by simp at h
 | n+1,_::_,[],h=>by simp at h
def packT (P:Program) (t:TypeId) (cs:Array Value):Value:=match P.underlying t with | some (.struct _)=>.agg cs | _=>cs.getD 0 undef
def EqRuns (P:Program) (d:Nat):Prop:=∀ (t:TypeId) (ls:List TypeDesc),flatT P d t=some ls→∀ (m:Nat) (w:World) (xs ys:Array Value),d≤m→zaK ls xs.toList=true→zaK ls ys.toList=true →
 (Op.equalIn m t (packT P t xs) (packT P t ys)).run P w = .ok (eqVs xs.toList ys.toList) w
theorem zie {P d t} {l:List TypeDesc} (h:flatT P d t=some l) (w xs off) (hl:zaK l ((xs.toList.drop off).take l.length)=true) :
    (part t xs off).run P w = .ok (packT P t (xs.extract off (off+l.length))) w:=by
  cases d with
  | zero=>simp [flatT] at h
  | succ d=>
    have hlen:=zb4 hl;unfold flatT at h;split at h
    · rename_i fs hu
      split at h
      · cases h
      · split at h
        · cases h
        · rename_i l' _
          split at h
          · rename_i hs
            cases h;cases hi:P.info? t with
            | none=>simp [hi] at hs
            | some i=>
              simp only [hi,yT,yh] at hs;simp [part,isAgg,run_underlying hu,sizeOf,typeInfo,hi,hs,packT,hu]
          · cases h
    all_goals first
      | (cases h;done)
      | (rename_i hu
         cases h;simp only [List.length_singleton] at hl hlen ⊢;have h1:off<xs.size:=by simp at hlen;omega
         have hx:xs[off]? = some xs[off]:=uh h1;simp [part,isAgg,run_underlying hu,hx,packT,hu,Array.getD,Array.size_extract]
         try (intro h2;exfalso;omega))
theorem zfm {P d m} (ih:EqRuns P d) (hm:d≤m) (xs ys):∀ (fs:List Field) (off:Nat) (ls:List TypeDesc) (w:World),flatFs (flatT P d) fs off=some ls →
  zaK ls (xs.toList.drop off)=true→zaK ls (ys.toList.drop off)=true→(Op.eqFields m xs ys fs).run P w = .ok (eqVs (xs.toList.drop off) (ys.toList.drop off)) w
 | [],off,ls,w,h,hx,hy=>by
  simp only [flatFs] at h;cases h;have h1:=zb4 hx;have h2:=zb4 hy;rw [List.length_eq_zero_iff.1 h1,List.length_eq_zero_iff.1 h2];simp [Op.eqFields,eqVs]
 | f::fs,off,ls,w,h,hx,hy=>by
  simp only [flatFs] at h;split at h
  ·cases h
  ·rename_i hno;have hn : f.name ≠ "_" := fun e => hno (.inl e)
   have ho:f.offset=off:=Classical.byContradiction λe=>hno (.inr e)
   split at h
   ·cases h
   ·rename_i l hl;split at h
    ·cases h
    ·rename_i r hr;cases h;obtain ⟨x1,x2⟩:=zeq hx;obtain ⟨y1,y2⟩:=zeq hy;have px:=zie hl w xs off x1;have py:=zie hl w ys off y1;have ex:(xs.extract off (off+l.length)).toList=(xs.toList.drop off).take l.length:=by rw [Array.toList_extract];simp [List.extract]
     have ey:(ys.extract off (off+l.length)).toList=(ys.toList.drop off).take l.length:=by rw [Array.toList_extract];simp [List.extract]
     have hq:=ih f.type l hl m w (xs.extract off (off+l.length)) (ys.extract off (off+l.length)) hm (by rw [ex];exact x1) (by rw [ey];exact y1);rw [ex,ey] at hq;have hrec:=zfm ih hm xs ys fs (off+l.length) r w hr (by rw [← List.drop_drop];exact x2) (by rw [← List.drop_drop];exact y2);have hlx:=zb4 hx;have hly:=zb4 hy;rw [eqVs_split l.length _ _ (by rw [hlx,hly]),List.drop_drop,List.drop_drop];simp only [Op.eqFields,hn,ne_eq,not_false_eq_true,if_true,ho,Sem.run_bind,px,py,hq,Result.andThen_ok,Sem.run_ite];cases hb:eqVs (List.take l.length (List.drop off xs.toList)) (List.take l.length (List.drop off ys.toList))
     ·simp
     ·simp [hrec]
theorem eqRuns {P}:∀ d,EqRuns P d
  | 0=>λt ls h=>by simp [flatT] at h
  | d + 1 => fun t ls h m w xs ys hm hx hy => by
    obtain ⟨m,rfl⟩:∃ m',m=m'+1:=⟨m - 1,by omega⟩
    unfold flatT at h;split at h
    · rename_i fs hu
      split at h
      · cases h
      · rename_i hst
        split at h
        · cases h
        · rename_i l' hl'
          split at h
          · cases h
            have hf:P.fieldsOf t=fs:=by simp [Program.fieldsOf,hu]
            have hp:∀ cs,packT P t cs = .agg cs:=λcs=>by simp [packT,hu]
            rw [hp,hp,run_equalIn_struct w m t xs ys (by rw [hf];exact hu) (by simpa using hst),hf];have:=zfm (eqRuns d) (by omega:d≤m) xs ys fs.toList 0 ls w hl' (by simpa using hx) (by simpa using hy);simpa using this
          · cases h
    all_goals first
      | (cases h;done)
      | (rename_i hu
         cases h;obtain ⟨xl,rfl⟩:∃ l:List Value,xs=l.toArray:=⟨xs.toList,by simp⟩
         obtain ⟨yl,rfl⟩:∃ l:List Value,ys=l.toArray:=⟨ys.toList,by simp⟩
         cases xl with
         | nil=>simp [zaK] at hx
         | cons x xl=>
           cases yl with
           | nil=>simp [zaK] at hy
           | cons y yl=>
             have h1:=zb4 hx;have h2:=zb4 hy;simp at h1 h2;subst h1;subst h2;simp only [zaK,uD] at hx hy;cases x <;> simp only [okLeaf,yd,ye] at hx
             cases y <;> simp only [okLeaf,yd,ye] at hy
             try subst hx
             try subst hy
             simp [packT,hu,eqVs,eqV,run_equalIn_bool' w m t _ _ ,run_equalIn_int w m t,run_equalIn_string w m t])
section
variable {P:Program} {o:Oper} {e:Operand→Option V} {H:List Blk}
theorem reps_valsI {A w}:∀ {l vs:List Value},D.reps A w (l.map .val) vs→vs=l
 | [],vs,h=>by simpa [D.reps] using h
 | v::l,vs,h=>by
  simp only [yM,D.reps] at h;obtain ⟨u,us,rfl,h1,h2⟩:=h;simp only [D.rep] at h1;rw [h1,reps_valsI h2]
def structD (vs:List Value):D:=.agg (vs.map .val)
theorem zfH {A w vs v} (h:(structD vs).rep A w v):v = .agg vs.toArray:=by
 simp only [structD,D.rep] at h;obtain ⟨us,rfl,h2⟩:=h;rw [← reps_valsI h2]
structure EqStruct (P:Program) (t:TypeId) (ls:List TypeDesc):Prop where
 flat:flatT P 20 t=some ls
 str:(match P.underlying t with | some (.struct _)=>true | _=>false)=true
 grd:P.eqGuardType P.depth t=false
theorem EqStruct.run {t} {ls:List TypeDesc} (h:EqStruct P t ls) {xs ys} (hx:zaK ls xs=true) (hy:zaK ls ys=true) (w) :
  (Op.equalIn 10000 t (.agg xs.toArray) (.agg ys.toArray)).run P w = .ok (eqVs xs ys) w:=by
 have:=eqRuns 20 t ls h.flat 10000 w xs.toArray ys.toArray (by decide) (by simpa using hx) (by simpa using hy);have hp:∀ cs,packT P t cs = .agg cs:=λcs=>by
  have:=h.str;unfold packT;split at this
  ·rename_i hu;simp [hu]
  ·cases this
 simpa [hp] using this
theorem OpV.seql {t u x y} {ls:List TypeDesc} {a b xs ys r} (ho:o.op = .binOp .eql t x y u) (ht:EqStruct P t ls) (hx:e x=some (.d a)) (hy:e y=some (.d b)) (ha:a=structD xs) (hb:b=structD ys)
  (lx:zaK ls xs=true) (ly:zaK ls ys=true) (hr:eqVs xs ys=r):OpV P o e H (.d (.bool r)):=
 .of_same λ_ _ w f _ hf=>by
  subst ha;subst hb;have h1:=hf x (by simp [ho,Op.operands]) _ hx;have h2:=hf y (by simp [ho,Op.operands]) _ hy;simp only [V.rep] at h1 h2;have h1:=zfH h1;have h2:=zfH h2;exact ⟨.bool r,by simp only [execOp,ho,h1,h2,run_eqGuard_agg w _ t x y _ _ ht.grd,run_eql_struct,ht.run lx ly,hr,Sem.run_bind,Sem.run_pure,Result.andThen_ok],zr.2 rfl⟩
theorem OpV.sneq {t u x y} {ls:List TypeDesc} {a b xs ys r} (ho:o.op = .binOp .neq t x y u) (ht:EqStruct P t ls) (hx:e x=some (.d a)) (hy:e y=some (.d b)) (ha:a=structD xs) (hb:b=structD ys)
  (lx:zaK ls xs=true) (ly:zaK ls ys=true) (hr:eqVs xs ys=r):OpV P o e H (.d (.bool (!r))):=
 .of_same λ_ _ w f _ hf=>by
  subst ha;subst hb;have h1:=hf x (by simp [ho,Op.operands]) _ hx;have h2:=hf y (by simp [ho,Op.operands]) _ hy;simp only [V.rep] at h1 h2;have h1:=zfH h1;have h2:=zfH h2;exact ⟨.bool (!r),by simp only [execOp,ho,h1,h2,run_eqGuard_agg w _ t x y _ _ ht.grd,run_neq_struct,ht.run lx ly,hr,Sem.run_bind,Sem.run_pure,Result.andThen_ok],zr.2 rfl⟩
theorem OpV.callLe {f args tys xs xs' y} (ho:o.op = .call { callee:=.value (.func f),args:=args,argTypes:=tys }) (hc:callable P f=true)
  (hx:evs e args.toList=some xs) (hl:D.Les xs xs') (hp:Pure P f xs' y):OpV P o e H (.d y):=
 .call ho hc hx ⟨λA w vs h1 hg h2=>hp.run A w vs h1 hg (hl.reps h2)⟩
end
end
section
variable [Globs] [Drw]
theorem madeCells_succ {z k} (hz:z.size=k) (hk:0<k) (n):(madeCells z ((n+1)*k)).toList=z.toList++(madeCells z (n*k)).toList:=by
 unfold madeCells;rw [Array.toList_map,Array.toList_map,Array.toList_range,Array.toList_range,uj,Nat.add_comm,List.range_add,ul,uL];congr 1
 ·apply uK
  ·simp [hz]
  ·intro i h1 h2;simp only [yS,List.length_range] at h1;have:i<z.size:=by omega
   simp only [List.getElem_map,List.getElem_range,hz,Nat.mod_eq_of_lt h1];simp [this]
 ·apply List.map_congr_left;intro i _;simp [hz]
theorem flat_made {A w k z d} (hr:d.rep A w z) (hz:z.cells.size=k) (hk:0<k):∀ n,D.flat A w k (List.replicate n d) (madeCells z.cells (n*k)).toList
 | 0=>by simp [D.flat,madeCells]
 | n+1=>by
  rw [madeCells_succ hz hk,List.replicate_succ];simp only [D.flat];exact ⟨z,_,rfl,hz,hr,flat_made hr hz hk n⟩
theorem mkS {α:Type} {b:Nat} {n:Int} {x:α} {r:List α} (h:mkl b n x=some r):∃ m:Nat,n=(m:Int)∧m*b≤140737488355328∧r=List.replicate m x:=by
 unfold mkl at h;split at h
 ·rename_i h0;obtain ⟨m,rfl⟩:=yQ h0.1;cases h;exact ⟨m,rfl,by have:=h0.2;rw [← y0] at this;omega,by simp⟩
 ·cases h
theorem inIds {i:Nat} {ids:List Nat} (h:ids.contains i=true):i∈ids:=by simpa using h
theorem TriL.makeVec {P:Program} {C:Ctx} {ops:Array Oper} {o:Oper} {rest:List Oper} {Q:Exit→St→Prop} {T:List (Nat×V)} {H:List Blk} {α:Type} {t el:TypeId} {k bytes d:Nat} {x y:Operand} {enc:α→D} {m:Int} {z:α} {r:List α}
  (hg:o.guard=none) (ho:o.op = .makeSlice t x y) (hd:o.dst=some d) (hdn:Nat.blt d C.n=true) (he:zbW P t el k bytes=true) (hb:Nat.blt 0 bytes=true) (hx:ev T x=some (.d (.int m))) (hy:ev T y=some (.d (.int m))) (hz:ZeroD P el (enc z)) (hm:mkl bytes m z=some r)
  (kk:TriL P C ops rest Q ⟨(d,.vec H.length r.length)::T,H++[.vec el k (r.map enc)]⟩):TriL P C ops (o::rest) Q ⟨T,H⟩:=by
 obtain ⟨htu,hk0,inf,zv,hinf,hzv,hisz,hib,hzc⟩:=zco he;obtain ⟨n,rfl,hn,rfl⟩:=mkS hm;obtain ⟨z',hz1,hz2⟩:=hz.out;have:z'=zv:=by unfold zb3 at hz1;rw [hinf] at hz1;simp only [hzv,yh] at hz1;exact hz1.symm
 subst this;have hb0:0<bytes:=by simpa using hb
 have hn2:n≤140737488355328:=ue (Nat.le_mul_of_pos_right n hb0) hn;refine TriL.step hg (λbs a w hR=>?_) kk;have e1:=zr.1 (hR.ev hx);have e2:=zr.1 (hR.ev hy);have hmk:=run_make (P:=P) w t el inf z' htu hinf hzv .i64 .i64 n n (by omega) (Int.le_refl _) (by rw [hib,← y0,Nat.mul_comm];omega) (by omega);have hrun:(execOp a.eval o).run P w = .ok (.value (.slice (some ⟨w.heap.size,0,none⟩) n n)) (w.alloc (.cells (madeCells z'.cells (n*k)) el)):=by
  simp only [execOp,ho,e1,e2,Sem.run_bind,hmk,Result.andThen_ok,Sem.run_pure,yq,hisz]
 refine ⟨_,_,bs++[some w.heap.size],hrun,.inl ⟨_,rfl,?_⟩⟩;have:=hR.newVec (el:=el) (k:=k) (n:=n) (cap:=n) (r:=d) (cells:=madeCells z'.cells (n*k)) (xs:=List.replicate n (enc z)) (by simpa using hdn) (by simp) (size_madeCells _ _) (yn _) (by simp only [maxLen];omega) (by
  rw [List.take_of_length_le (by rw [yC,size_madeCells];exact yn _)];exact flat_made (hz2 _ _) hzc hk0 n)
 rw [hd];simpa using this
theorem zdo {α:Type} {l:List α} {i:Int} {x:α} {r:List α} (h:sto l i x=some r):l.length=r.length:=by
 obtain ⟨n,_,_,rfl⟩:=stoS h;simp
theorem TriL.relen {P C ops rest Q T H} (t) {i n m} (ht:look t T=some (.vec i n)) (e:n=m)
  (k:TriL P C ops rest Q ⟨(t,.vec i m)::T,H⟩):TriL P C ops rest Q ⟨T,H⟩:=by
 subst e;exact ⟨λ_ a w hR=>k.run _ a w (hR.know (hR.tmp t _ ht).1 (hR.tmp t _ ht).2)⟩
end
section
variable [Globs] [Drw]
def freeOp (o:Oper):Bool:=match o.guard,o.dst,o.op with
 | none,some _,.move _=>true
 | none,some _,.binOp .quo _ (.tmp _) (.tmp _) _=>true
 | none,some _,.binOp .rem _ (.tmp _) (.tmp _) _=>true
 | _,_,_=>false
def zhL (o:Oper) (T:List (Nat×V)):Prop:=match o.op with
 | .binOp _ _ (.tmp x) (.tmp y) _=>∃ a b:Int,look x T=some (.d (.int a))∧look y T=some (.d (.int b))
 | _=>True
theorem freeOp_run {P o} (h:freeOp o=true) {T} (hi:zhL o T) {f} (hf:∀ x a,Operand.tmp x∈o.op.operands→look x T=some (.d (.int a))→f (.tmp x) = .int .i64 a) {w} {K:Value→World→Prop} (hr:zfO P K ((execOp f o).run P w)) :
  ∃ u,K u w∧∀ w',(execOp f o).run P w' = .ok (.value u) w':=by
 unfold freeOp at h;split at h
 ·rename_i x _ _ ho;have:∀ w',(execOp f o).run P w' = .ok (.value (f x)) w':=λw'=>by simp [execOp,ho]
  rw [this] at hr;exact ⟨_,hr,this⟩
 ·rename_i t x y u _ _ ho;simp only [zhL,ho] at hi;obtain ⟨a,b,h1,h2⟩:=hi;have e1:=hf x a (by simp [ho,Op.operands]) h1;have e2:=hf y b (by simp [ho,Op.operands]) h2;by_cases hb:b=0
  ·exfalso;revert hr;simp [execOp,ho,e1,e2,eqGuard_at_int,binOp,Op.intDiv,hb,zfO,runtimePanic,goPanic,Result.andThen]
  ·have:∀ w',(execOp f o).run P w' = .ok (.value (.int .i64 (w64 (a.tdiv b)))) w':=λw'=>by
    simp [execOp,ho,e1,e2,eqGuard_at_int,binOp,Op.intDiv,hb,w64]
   rw [this] at hr;exact ⟨_,hr,this⟩
 ·rename_i t x y u _ _ ho;simp only [zhL,ho] at hi;obtain ⟨a,b,h1,h2⟩:=hi;have e1:=hf x a (by simp [ho,Op.operands]) h1;have e2:=hf y b (by simp [ho,Op.operands]) h2;by_cases hb:b=0
  ·exfalso;revert hr;simp [execOp,ho,e1,e2,eqGuard_at_int,binOp,Op.intDiv,hb,zfO,runtimePanic,goPanic,Result.andThen]
  ·have:∀ w',(execOp f o).run P w' = .ok (.value (.int .i64 (a.tmod b))) w':=λw'=>by
    simp [execOp,ho,e1,e2,eqGuard_at_int,binOp,Op.intDiv,hb]
   rw [this] at hr;exact ⟨_,hr,this⟩
 ·cases h
def zgR (o:Oper):Bool:=match o.op with | .select _ _=>true | _=>false
def zfy (l:List Oper) (n:Nat):List Nat→List Nat→Bool
 | [],_=>true
 | i::F,dn=>(match l[i]? with
  | none=>false
  | some oi=>freeOp oi&&decide (i<n)&&!dn.contains i&&oi.after.toList.all (λe=>!Region.binds .any e||dn.contains e.on) &&
   (List.range l.length).all (λj=>j==i||dn.contains j||(match l[j]? with
    | none=>false
    | some oj=>oj.after.toList.any (λe=>Region.binds .any e&&e.on==i)||oi.apart l.toArray oj)) &&
   (match oi.op with
    | .binOp _ _ (.tmp x) (.tmp y) _=>(List.range l.length).all λj=>decide (j<i)||(match l[j]? with | none=>true | some oj=>oj.dst != some x&&oj.dst != some y)
    | _=>true))&&zfy l n F (i::dn)
def zba (Q:Exit→St→Prop):Exit→St→Prop
 | .panic _,_=>False
 | e,s=>Q e s
structure First (l:List Oper) (n:Nat) (i:Nat) (oi:Oper) (dn:List Nat):Prop where
 at_:l[i]? = some oi
 free:freeOp oi=true
 lt:i<n
 new:i∉dn
 after:∀ e∈oi.after.toList,Region.binds .any e=true→e.on∈dn
 apart:∀ j oj,l[j]? = some oj→j≠i→j∉dn→(∀ e∈oj.after.toList,Region.binds .any e=true→e.on≠i)→oi.apart l.toArray oj=true
 ops:∀ op t x y u,oi.op = .binOp op t (.tmp x) (.tmp y) u→∀ j oj,l[j]? = some oj→¬ j<i→oj.dst≠some x∧oj.dst≠some y
theorem zhQ {l n i F dn} (h:zfy l n (i::F) dn=true):(∃ oi,First l n i oi dn)∧zfy l n F (i::dn)=true:=by
 simp only [zfy,yc] at h;refine ⟨?_,h.2⟩;have h:=h.1;cases ho:l[i]? with
 | none=>simp [ho] at h
 | some oi=>
  simp only [ho,yc,yd,yw,yo] at h;obtain ⟨⟨⟨⟨⟨h1,h2⟩,h3⟩,h4⟩,h5⟩,h6⟩:=h;refine ⟨oi,ho,h1,h2,by simpa using h3,λe he hb=>?_,λj oj hj hji hjd hw=>?_,λop t x y u hop j oj hj hlt=>?_⟩
  ·have:=h4 e he;simpa [hb] using this
  ·have:=h5 j (yX.2 (yb.1 hj).1);simp only [hj,yz,beq_iff_eq,uv,yc] at this;rcases this with (h | h) | ⟨e,he,h7,h8⟩ | h
   ·exact absurd h hji
   ·exact absurd (by simpa using h) hjd
   ·exact absurd h8 (hw e he h7)
   ·exact h
  ·simp only [hop,yo] at h6;have:=h6 j (yX.2 (yb.1 hj).1);simp only [hj,yz,yd,yc,bne_iff_ne,ne_eq] at this;exact this.resolve_left hlt
theorem TL_put {l T0 ps M L0 n} (ok:RegOK l n M L0) (hfst:∀ (i:Nat) (o:Oper) (v:V),ps[i]? = some (o,v)→l[i]? = some o) {listed} (hsz:listed.size=l.length) (hcl:Closed l M listed) {i o v}
  (hpi:ps[i]? = some (o,v)) (hil:listed.getD i false=false) (hbef:∀ k,(M.getD i 0).testBit k=true→listed.getD k false=true) (t:Nat) :
  look t (TL T0 ps (λk=>(listed.setIfInBounds i true).getD k false) ps.length)=look t (putT (TL T0 ps (λk=>listed.getD k false) ps.length) o.dst v):=by
 have ho:=hfst i o v hpi;have hilt:=(yb.1 ho).1;have hips:=(yb.1 hpi).1;rw [zda];by_cases hd:o.dst=some t
 ·rw [if_pos hd];have h1:look t (TL T0 ps (λk=>(listed.setIfInBounds i true).getD k false) ps.length)=look t (TL T0 ps (λk=>decide (k<i+1)) ps.length):=by
   refine zdE (λk ok' vk hk hdk=>?_) ps.length;have hlk:=hfst k ok' vk hk;rw [zZ _ _ _ _ (by omega)];rcases Nat.lt_trichotomy k i with hki | hki | hki
   ·rw [if_neg (by omega)];simp only [show k<i+1 by omega,decide_true];rcases ok.pair k i ok' _ hki hlk ho with hb | hap
    ·exact hbef k hb
    ·exact absurd hd ((Oper.apart_spec hap).2.1 t hdk)
   ·rw [if_pos hki];simp [hki]
   ·rw [if_neg (by omega)];simp only [show ¬ k<i+1 by omega,decide_false];cases hb:listed.getD k false with
    | false=>rfl
    | true=>
     exfalso;rcases ok.pair i k _ ok' hki ho hlk with hb2 | hap
     ·have:=hcl k (by have:=(yb.1 hlk).1;omega) hb i hb2;rw [hil] at this;cases this
     ·exact (Oper.apart_spec hap).2.1 t hd hdk
  rw [h1];have h2:=zef (T:=T0) (ps:=ps) (p:=λk=>decide (k<i+1)) (m:=i+1) (λk hk=>by simp;omega) (ps.length - (i+1));rw [show i+1+(ps.length - (i+1))=ps.length by omega] at h2;rw [h2];simp only [TL,hpi,Nat.lt_succ_self,decide_true,if_true,zda,hd]
 ·rw [if_neg hd];refine zdE (λk ok' vk hk hdk=>?_) ps.length;rw [zZ _ _ _ _ (by omega)];split
  ·rename_i hki;subst hki;rw [hpi] at hk;simp only [yh,yx] at hk;obtain ⟨rfl,_⟩:=hk;exact absurd hdk hd
  ·rfl
theorem wpAny_firsts {P C bs H T0 Q ps M L0 l n} (hQ:∀ c s,¬ Q (.panic c) s) (hsel:l.all (λo=>!zgR o)=true)
  (hfst:∀ (i:Nat) (o:Oper) (v:V),ps[i]? = some (o,v)→l[i]? = some o) (hpn:ps.length=n) (ok:RegOK l n M L0) (hy:∀ (i:Nat) (o:Oper) (v:V),ps[i]? = some (o,v)→YV P C.n l.toArray H o (TL T0 ps (λk=>decide (k<i)) ps.length) v):∀ (F dn:List Nat),zfy l n F dn=true →
  (∀ i∈F,∀ o,l[i]? = some o→zhL o (TL T0 ps (λ_=>true) ps.length)) →
  ∀ (listed:Array Bool) (a:Act) (w:World) (fuel:Nat),listed.size=l.length→(∀ j,j<l.length→(listed.getD j false=true↔j∈dn))→Closed l M listed→R C bs ⟨TL T0 ps (λk=>listed.getD k false) ps.length,H⟩ a w →
  (∀ (listed':Array Bool) (a':Act),listed'.size=l.length→(∀ j,j<l.length→(listed'.getD j false=true↔j∈F.reverse++dn))→Closed l M listed'→R C bs ⟨TL T0 ps (λk=>listed'.getD k false) ps.length,H⟩ a' w→wpAny P .any l.toArray (QR C Q) fuel listed' a' w) →
  wpAny P .any l.toArray (QR C Q) (fuel+F.length) listed a w
 | [],dn,_,_,listed,a,w,fuel,hsz,hdn,hcl,hR,hk=>hk listed a hsz (by simpa using hdn) hcl hR
 | i::F,dn,hF,hI,listed,a,w,fuel,hsz,hdn,hcl,hR,hk=>by
  obtain ⟨⟨oi,f⟩,hF'⟩:=zhQ hF;have hilt:=(yb.1 f.at_).1;have hips:i<ps.length:=by rw [hpn];exact f.lt
  have hpi:ps[i]? = some (ps[i].1,ps[i].2):=yA hips;have hoi:oi=ps[i].1:=by have:=hfst i _ _ hpi;rw [f.at_] at this;simpa using this
  have hil:listed.getD i false=false:=by
   cases hb:listed.getD i false with
   | false=>rfl
   | true=>exact absurd ((hdn i hilt).1 hb) f.new
  have hedges:∀ e∈oi.after.toList,Region.binds .any e=true→listed.getD e.on false=true:=λe he hb=>by
   have:=ok.back i oi f.at_ e he hb;exact (hdn e.on (by omega)).2 (f.after e he hb)
  have hbef:=zeQ ok hcl f.at_ hedges;have hready:i∈Region.ready .any l.toArray listed:=zfc.2 ⟨oi,f.at_,by rw [zbJ _ _ (by omega)];exact hil,hedges⟩;have hlook:∀ t∈oi.looksAt l.toArray,look t (TL T0 ps (λk=>decide (k<i)) ps.length)=look t (TL T0 ps (λk=>listed.getD k false) ps.length):=by
   intro t ht;refine zdE (λk ok' vk hk hd=>?_) ps.length;have hlk:=hfst k ok' vk hk;rcases Nat.lt_trichotomy k i with hki | hki | hki
   ·simp only [hki,decide_true];rcases ok.pair k i ok' _ hki hlk f.at_ with hb | hap
    ·exact (hbef k hb).symm
    ·exact absurd ht ((Oper.apart_spec hap).1 t hd)
   ·subst hki;simp only [Nat.lt_irrefl,decide_false];exact hil.symm
   ·simp only [show ¬ k<i by omega,decide_false];cases hb:listed.getD k false with
    | false=>rfl
    | true=>
     exfalso;rcases ok.pair i k _ ok' hki f.at_ hlk with hb2 | hap
     ·have:=hcl k (by have:=(yb.1 hlk).1;omega) hb i hb2;rw [hil] at this;cases this
     ·exact (Oper.apart_spec hap).2.2 t hd ht
  have hyi:=(hy i _ _ hpi).congr (by rw [← hoi];exact hlook);rw [← hoi] at hyi;obtain ⟨hdst,hyi⟩:=hyi;have hfree:=f.free;have hgd:oi.guard=none∧z0 oi=false:=by
   unfold freeOp at hfree;split at hfree
   ·rename_i hg _ ho;exact ⟨hg,by simp [z0,ho]⟩
   ·rename_i hg _ ho;exact ⟨hg,by simp [z0,ho]⟩
   ·rename_i hg _ ho;exact ⟨hg,by simp [z0,ho]⟩
   ·cases hfree
  have hop:OpV P oi (ev (TL T0 ps (λk=>listed.getD k false) ps.length)) H ps[i].2:=by
   rcases hyi with ⟨_,_,hv⟩ | ⟨_,⟨t,r,q,_⟩,_⟩ | ⟨_,j,want,g,hg,_⟩ | ⟨_,t,r,y,d,k,q,_⟩
   ·exact hv
   ·simp [z0,q] at hgd
   ·rw [hgd.1] at hg;cases hg
   ·simp [z0,q] at hgd
  have hints:zhL oi (TL T0 ps (λk=>listed.getD k false) ps.length):=by
   have h0:=hI i (by simp) oi f.at_;unfold zhL at h0 ⊢;split
   ·rename_i op t x y u hq;simp only [hq] at h0;have hsame:∀ z,(z=x∨z=y)→look z (TL T0 ps (λ_=>true) ps.length)=look z (TL T0 ps (λk=>listed.getD k false) ps.length):=by
     intro z hz;have hz':z∈oi.looksAt l.toArray:=by
      simp only [Oper.looksAt,yK,List.mem_filterMap];left;rcases hz with rfl | rfl
      ·exact ⟨.tmp z,by simp [hq,Op.operands],rfl⟩
      ·exact ⟨.tmp z,by simp [hq,Op.operands],rfl⟩
     rw [← hlook z hz'];refine zdE (λk ok' vk hk hd=>?_) ps.length;have hlk:=hfst k ok' vk hk;by_cases hki:k<i
     ·simp [hki]
     ·exfalso;have:=f.ops op t x y u hq k ok' hlk hki;rcases hz with rfl | rfl
      ·exact this.1 hd
      ·exact this.2 hd
    rw [← hsame x (.inl rfl),← hsame y (.inr rfl)];exact h0
   ·trivial
  have hrun:=hop.run C.A0 bs w a.eval hR.mem (λx _ y hx=>hR.ev hx) (λ_=>rfl) (λ_=>rfl);obtain ⟨u,⟨_,hu⟩,hall⟩:=freeOp_run hfree hints (f:=a.eval) (λx b _ hx=>by
   have:=zr.1 (hR.ev (x:=.tmp x) (by simpa [ev] using hx));exact this) hrun
  have hyields:Yields P l.toArray oi u a:=.inl ⟨by simp [Region.wanted,hgd.1],hall⟩;have hselA:∀ (j:Nat) (o:Oper) cs b,l.toArray[j]? = some o→o.op≠.select cs b:=λj o cs b hj hs=>by
   have:=(yo.1 hsel) o (by simp at hj;exact yu hj);simp [zgR,hs] at this
  rw [show fuel+(i::F).length=fuel+F.length+1 by simp;omega];refine wpAny_first (i:=i) (oi:=oi) (v:=u) (by simpa using f.at_) hselA (λc a w h=>h.elim (λ⟨bs',s',hq,_⟩=>absurd hq (hQ c s')) (λh=>(by cases h.1))) (fuel+F.length) listed a w (λj oj hj hji hjl hw=>?_) hready hyields ?_
  ·simp only [List.getElem?_toArray] at hj;have hjlt:=(yb.1 hj).1;rw [zbJ _ _ (by omega)] at hjl;exact f.apart j oj hj hji (λh=>by rw [(hdn j hjlt).2 h] at hjl;cases hjl) (λe he hb=>hw e (by simpa using he) hb)
  ·have hget:∀ k,(listed.setIfInBounds i true).getD k false=if k=i then true else listed.getD k false:=λk=>zZ _ _ _ _ (by omega)
   refine wpAny_firsts hQ hsel hfst hpn ok hy F (i::dn) hF' (λj hj=>hI j (by simp [hj])) (listed.setIfInBounds i true) _ w fuel (by simpa using hsz) (λj hj=>?_) ?_ ?_ (λl' a' q1 q2 q3 q4=>hk l' a' q1 (λj hj=>by rw [q2 j hj];simp [or_assoc,or_left_comm]) q3 q4)
   ·rw [hget];split
    ·rename_i e;simp [e]
    ·rename_i e;rw [hdn j hj];simp [e]
   ·intro j hj hjl i' hi';rw [hget] at hjl ⊢;split
    ·rfl
    ·split at hjl <;> rename_i hji
     ·subst hji;exact hbef i' hi'
     ·exact hcl j hj hjl i' hi'
   ·have hput:=hR.put (Fr.refl _ _) oi.dst hdst hu;rw [St.put_eq] at hput;refine hput.weaken λt v hv=>?_
    rw [← hv,TL_put ok hfst hsz hcl hpi hil hbef t,← hoi]
inductive Ints (l:List Oper) (T:List (Nat×V)):List Nat→Prop
 | nil:Ints l T []
 | move {i:Nat} {F:List Nat} {o:Oper} {x:Operand}:l[i]? = some o→o.op = .move x→Ints l T F→Ints l T (i::F)
 | ints {i:Nat} {F:List Nat} {o:Oper} {op:BinOp} {t u:TypeId} {x y:Tmp} {a b:Int}:l[i]? = some o→o.op = .binOp op t (.tmp x) (.tmp y) u→look x T=some (.d (.int a))→look y T=some (.d (.int b))→Ints l T F→Ints l T (i::F)
theorem Ints.all {l T T1 n} (hw:Wk n T1 T):∀ {F:List Nat},Ints l T F→∀ i∈F,∀ o,l[i]? = some o→zhL o T1
 | _,.nil,i,hi,_,_=>by simp at hi
 | _,.move h1 h2 h3,i,hi,o,ho=>by
  rcases yI.1 hi with rfl | hi
  ·rw [h1] at ho;cases ho;simp [zhL,h2]
  ·exact h3.all hw i hi o ho
 | _,.ints h1 h2 h3 h4 h5,i,hi,o,ho=>by
  rcases yI.1 hi with rfl | hi
  ·rw [h1] at ho;cases ho;simp only [zhL,h2];exact ⟨_,_,(hw _ _ h3).resolve_right (λh=>by cases h.1),(hw _ _ h4).resolve_right (λh=>by cases h.1)⟩
  ·exact h5.all hw i hi o ho
theorem Tri.drawF {P C Q s id l} (n F) (hm:P.follows .mixedOrders=true) (hok:regOKF l n F=true) (hf:(zfy l n F []&&l.all (λo=>!zgR o)&&(l.take n).all (λo=>!z0 o)&&decide (n≤l.length)&&zf3 (l.take n)&&zeU (l.take n)&&((List.range n).filter (λi=>!F.contains i)).length+F.length==n)=true)
  (h:TriQ P C.n l.toArray s.H (l.take n) [] s.T (λ_ T=>Ints l T F∧TriL P C l.toArray (l.drop n) (zba Q) ⟨T,s.H⟩)):Tri P C (.region id l.toArray true) Q s:=by
 simp only [yc,yd,beq_iff_eq] at hf;obtain ⟨⟨⟨⟨⟨⟨hf1,hf2⟩,hf3⟩,hn⟩,ha1⟩,ha2⟩,hcount⟩:=hf;refine Tri.mono (Q:=zba Q) ⟨λbs a w hR=>?_⟩ (λe s hq=>by cases e <;> first | exact hq.elim | exact hq);obtain ⟨M,ok⟩:=ziP hok;obtain ⟨qs,hq1,hq2,T',⟨hI,hK⟩,hq3⟩:=TriQ0.path (T0:=s.T) (l.take n) [] s.T [] (λ_=>rfl) h.run;simp only [yV,uz,uq] at hq2 hq3 hK hI;have hlen:qs.length=n:=by have:=congrArg List.length hq1;simp at this;omega
 have hl:l=qs.map (·.1)++l.drop n:=by rw [hq1,uB]
 have hfst:∀ (i:Nat) (o:Oper) (v:V),qs[i]? = some (o,v)→l[i]? = some o:=λi o v hi=>by
  rw [hl,yg (by simpa using (yb.1 hi).1)];simp [hi]
 have hnos:∀ o∈qs.map (·.1),z0 o=false:=λo ho=>by rw [hq1] at ho;simpa using (yo.1 hf3) o ho
 have hevs:evsOf qs=[]:=by
  unfold evsOf;rw [List.flatMap_eq_nil_iff];intro p hp;exact zea (hnos p.1 (yU.2 ⟨p,hp,rfl⟩))
 have hal:zf3 (qs.map (·.1))=true∧zeU (qs.map (·.1))=true:=by rw [hq1];exact ⟨ha1,ha2⟩
 have hf0:∀ i,(Array.replicate l.toArray.size false).getD i false=false:=λi=>by
  simp only [yP,Array.getElem?_replicate];split <;> rfl
 refine wp_region_any hm ?_;have hend:TriL P C l.toArray (l.drop n) (zba Q) ⟨ptrsOf (allocs (evsOf qs)) s.H.length (TL s.T qs (λ_=>true) qs.length),s.H++zf5 P (evsOf qs)⟩:=by
  have e:zf5 P (evsOf qs)=[]:=by rw [hevs];rfl
  rw [e,hevs,ur];exact TriL.wk hq3 hK
 have hFn:∀ i∈F,i<n:=by
  have:∀ (F dn:List Nat),zfy l n F dn=true→∀ i∈F,i<n:=by
   intro F
   induction F with
   | nil=>intro dn _;simp
   | cons i F ih=>
    intro dn h j hj;obtain ⟨⟨oi,f⟩,h'⟩:=zhQ h;rcases yI.1 hj with rfl | hj
    ·exact f.lt
    ·exact ih _ h' j hj
  exact this F [] hf1
 have hR2:R C bs ⟨TL s.T qs (λk=>(Array.replicate l.toArray.size false).getD k false) qs.length,s.H⟩ a { w with drawn:=w.drawn+1 }:=by
  refine hR.drew.weaken λt v hv=>?_
  rw [← hv];have:TL s.T qs (λk=>(Array.replicate l.toArray.size false).getD k false) qs.length=TL s.T qs (λk=>(Array.replicate l.toArray.size false).getD k false) 0:=by
   have:=zef (T:=s.T) (ps:=qs) (p:=λk=>(Array.replicate l.toArray.size false).getD k false) (m:=0) (λi _=>hf0 i) qs.length;simpa using this
  rw [this];rfl
 have key:=wpAny_firsts (P:=P) (C:=C) (bs:=bs) (H:=s.H) (T0:=s.T) (Q:=zba Q) (ps:=qs) (n:=n) (λc s h=>h) hf2 hfst hlen ok hq2 F [] hf1 (hI.all hq3) (Array.replicate l.toArray.size false) a { w with drawn:=w.drawn+1 } (l.length - F.length) (by simp)
  (λj _=>by rw [hf0 j];simp) (λj _ hj=>by rw [hf0 j] at hj;cases hj) hR2 (λlisted' a' q1 q2 q3 q4=>?_)
 ·have e:l.toArray.size=l.length - F.length+F.length:=by simp;omega
  have key':wpAny P .any l.toArray (QR C (zba Q)) l.toArray.size (Array.replicate l.toArray.size false) a { w with drawn:=w.drawn+1 }:=by
   conv=>arg 5;rw [e]
   exact key
  exact key'
 ·have hq2':∀ j,j<l.length→(listed'.getD j false=true↔j∈F):=λj hj=>by rw [q2 j hj];simp
  have ok':RegOK l qs.length M F:=by rw [hlen];exact ok
  refine zfL (P:=P) (C:=C) (bs:=bs) (H:=s.H) (T0:=s.T) (Q:=zba Q) (ps:=qs) (l2:=l.drop n) (M:=M) (L0:=F) (l:=l) hl ok' (λi o v hi=>hq2 i o v hi) hal.1 hal.2 hend _ listed' a' _ q1
   (λi hi=>(hq2' i (by have:=hFn i hi;omega)).2 hi) (λi hi=>?_) q3 ?_ ?_
  ·by_cases hil:i<l.length
   ·cases hb:listed'.getD i false with
    | false=>rfl
    | true=>have:=hFn i ((hq2' i hil).1 hb);omega
   ·simp [yP,show listed'[i]? = none by simp;omega]
  ·have hcnt:((List.range qs.length).filter λi=>!listed'.getD i false).length=qs.length - F.length:=by
    have e1:((List.range qs.length).filter λi=>!listed'.getD i false)=(List.range qs.length).filter (λi=>!F.contains i):=by
     refine List.filter_congr λi hi=>?_
     have hi':=yX.1 hi;have:=hq2' i (by omega);cases hb:listed'.getD i false
     ·have hno:i∉F:=λh=>by rw [this.2 h] at hb;cases hb
      simp [hno]
     ·have hyes:=this.1 hb;simp [hyes]
    rw [e1];rw [hlen];omega
   rw [hcnt,hlen,ua];omega
  ·refine ⟨λ_=>none,?_,⟨λi b h=>(by cases h),λi o v t r h1 h2 _ _=>?_,λi j b h=>(by cases h),λi b h=>(by cases h)⟩,λi b h=>(by cases h)⟩
   ·exact q4.own_more (A:=(C.plus λ_=>none).A0) (Fr.refl zd _) (λb _ hb=>hb.elim (λh=>h) (λ⟨i,h⟩=>(by cases h))) (λb hb=>hb.elim (q4.own.foreign b) (λ⟨i,h⟩=>(by cases h)))
   ·have:=hnos o (yU.2 ⟨(o,v),yu h1,rfl⟩);simp [z0,h2] at this
end
section
structure GMap (κ β:Type) where
 es:List (Nat×κ×β)
 clock:Nat
 wf:wfM (es.map (·.1)) clock
theorem GMap.wfm {κ β:Type} (m:GMap κ β):wfM (m.es.map (·.1)) m.clock:=m.wf
def GMap.empty {κ β:Type}:GMap κ β:=⟨[],0,⟨by simp,by simp⟩⟩
theorem wfM_modify {κ β:Type} {es:List (Nat×κ×β)} {cl:Nat} (h:wfM (es.map (·.1)) cl) (i:Nat) (v:β):wfM ((es.modify i (λe=>(e.1,e.2.1,v))).map (·.1)) cl:=by
 have e:(es.modify i (λe=>(e.1,e.2.1,v))).map (·.1)=es.map (·.1):=by
  apply ui;intro j;simp only [y8,List.getElem?_modify];cases es[j]? with
  | none=>simp
  | some x=>by_cases hij:i=j <;> simp [hij]
 rw [e];exact h
theorem wfM_push {κ β:Type} {es:List (Nat×κ×β)} {cl:Nat} (h:wfM (es.map (·.1)) cl) (k:κ) (v:β):wfM ((es++[(cl,k,v)]).map (·.1)) (cl+1):=by
 simp only [ul,yM,List.map_nil];refine ⟨List.nodup_append.2 ⟨h.nd,by simp,λa ha b hb=>?_⟩,λx hx=>?_⟩
 ·simp only [yO] at hb;subst hb;exact Nat.ne_of_lt (h.lt a ha)
 ·rcases yK.1 hx with hx | hx
  ·exact Nat.lt_succ_of_lt (h.lt x hx)
  ·simp only [yO] at hx;subst hx;exact Nat.lt_succ_self _
theorem wfM_erase {κ β:Type} {es:List (Nat×κ×β)} {cl:Nat} (h:wfM (es.map (·.1)) cl) (i:Nat):wfM ((es.eraseIdx i).map (·.1)) cl:=by
 have hs:((es.eraseIdx i).map (·.1)).Sublist (es.map (·.1)):=(List.eraseIdx_sublist es i).map _;exact ⟨hs.nodup h.nd,λx hx=>h.lt x (hs.subset hx)⟩
def findK {κ β:Type} [DecidableEq κ] (k:κ):List (Nat×κ×β)→Option (Nat×β)
 | []=>none
 | e::es=>if k=e.2.1 then some (0,e.2.2) else (findK k es).map λp=>(p.1+1,p.2)
def GMap.get? {κ β:Type} [DecidableEq κ] (m:GMap κ β) (k:κ):Option β:=(findK k m.es).map (·.2)
def GMap.put {κ β:Type} [DecidableEq κ] (m:GMap κ β) (k:κ) (v:β):GMap κ β:=match findK k m.es with
 | some (i,_)=>⟨m.es.modify i (λe=>(e.1,e.2.1,v)),m.clock,wfM_modify m.wf i v⟩
 | none=>⟨m.es++[(m.clock,k,v)],m.clock+1,wfM_push m.wf k v⟩
def GMap.del {κ β:Type} [DecidableEq κ] (m:GMap κ β) (k:κ):GMap κ β:=match findK k m.es with
 | some (i,_)=>⟨m.es.eraseIdx i,m.clock,wfM_erase m.wf i⟩
 | none=>m
def GMap.blk {κ β:Type} (ke:κ→Value) (ve:β→D) (m:GMap κ β):Blk:=.mp (m.es.map (·.1)) (m.es.map λe=>ke e.2.1) (m.es.map λe=>ve e.2.2) m.clock
def GMap.dat {κ β:Type} (ke:κ→Value) (ve:β→D) (m:GMap κ β):D:=.mp (m.es.map λe=>ke e.2.1) (m.es.map λe=>ve e.2.2)
variable [Globs] [Drw]
structure IsV (d:D) (v:Value):Prop where
 eq:∀ (A:Nat→Prop) (w:World) (u:Value),d.rep A w u↔u=v
theorem IsV.val (v:Value):IsV (.val v) v:=⟨λA w u=>by simp only [D.rep]⟩
theorem IsV.ev {A w bs H d v u} (h:IsV d v) (hu:V.rep A w bs H (.d d) u):u=v:=(h.eq A w u).1 (by simpa only [V.rep] using hu)
structure KeyT (P:Program) (kt:TypeId) {κ:Type} [DecidableEq κ] (ke:κ→Value):Prop where
 check:∀ (b:Bool) (k:κ) (w:World),(Instr.checkKey b 10000 kt (ke k)).run P w = .ok () w
 find:∀ {β:Type} (k:κ) (l:List (Nat×κ×β)) (es:List MapEntry) (w:World),es.map (·.key)=l.map (λe=>ke e.2.1)→(Instr.findKey kt (ke k) es).run P w = .ok ((findK k l).bind λp=>(es[p.1]?).map λe=>(p.1,e.val)) w
 bits:∀ k:κ,Instr.sameBits 10000 (ke k) (ke k)=true
theorem zfx {d:TypeDesc} {k}:∀ (es:List MapEntry) (i:Nat),Instr.findNow d k es i=(Instr.findNow d k es 0).map (λo=>o.map λp=>(p.1+i,p.2))
 | [],i=>by simp [Instr.findNow]
 | e::es,i=>by
  simp only [Instr.findNow];split
  ·simp
  ·rw [zfx es (i+1),zfx es (0+1)];cases Instr.findNow d k es 0 with
   | none=>rfl
   | some o=>cases o <;> simp;omega
  ·rfl
theorem zgd {κ β:Type} [DecidableEq κ] {d:TypeDesc} {ke:κ→Value} (hs:∀ a b,Instr.sameNow d (ke a) (ke b)=some (decide (a=b))) (k:κ):∀ (l:List (Nat×κ×β)) (es:List MapEntry),es.map (·.key)=l.map (λe=>ke e.2.1) →
  Instr.findNow d (ke k) es 0=some ((findK k l).bind λp=>(es[p.1]?).map λe=>(p.1,e.val))
 | [],es,h=>by
  have:es=[]:=by simpa using h
  subst this;simp [Instr.findNow,findK]
 | x::l,[],h=>by simp at h
 | x::l,e::es,h=>by
  simp only [yM,List.cons.injEq] at h;simp only [Instr.findNow,h.1,hs,findK];by_cases hk:k=x.2.1
  ·simp [hk]
  ·simp only [hk,decide_false,if_false];rw [zfx,zgd hs k l es h.2];cases findK k l with
   | none=>simp
   | some p=>simp;rfl
theorem KeyT.str {P kt} (h:P.underlying kt=some .string):KeyT P kt (λl:List UInt8=>Value.string ⟨l.toArray⟩) where
 check b k w:=MapKept.run_checkKey h (k:=.string ⟨k.toArray⟩) trivial b 9999
 find k l es w he:=MapKept.run_findKey h (zgd (d:=.string) (ke:=λl:List UInt8=>Value.string ⟨l.toArray⟩) (λa b=>by simp only [Instr.sameNow];rw [beq_toListBytes,zhG]) k l es he)
 bits k:=by simp only [Instr.sameBits];rw [beq_toListBytes,zhG];simp
theorem KeyT.int {P kt} (h:P.underlying kt=some (.int .i64)):KeyT P kt (λn:Int=>Value.int .i64 n) where
 check b k w:=MapKept.run_checkKey h (k:=.int .i64 k) rfl b 9999
 find k l es w he:=MapKept.run_findKey h (zgd (d:=.int .i64) (ke:=λn:Int=>Value.int .i64 n) (λa b=>by simp only [Instr.sameNow,if_true];rfl) k l es he)
 bits k:=by simp [Instr.sameBits]
theorem R.adoptK {C:Ctx} {A:Nat→Prop} {bs:List (Option Nat)} {s:St} {a:Act} {w:World} {b:Nat} {o:Obj} (k0:Blk) (h:R { C with A0:=λc=>A c∨c=b } bs s a w) (hb:w.heap[b]? = some o) (hA:¬ A b)
  (hlo:C.w0.heap.size≤b) (hk0:k0.rep (Own A (bs++[some b])) w (bs++[some b]) (s.H++[k0]) s.H.length):R { C with A0:=A } (bs++[some b]) ⟨s.T,s.H++[k0]⟩ a w:=by
 have hbl:=(ym.1 hb).1;have hnb:some b∉bs:=λhc=>h.own.not b hc (.inr rfl)
 have hsub:∀ c,c<w.heap.size→Own A (bs++[some b]) c→Own (λc=>A c∨c=b) bs c:=λc _ hc=>by
  rcases hc with hc | hc
  ·exact .inl (.inl hc)
  ·rcases yK.1 hc with hc | hc
   ·exact .inr hc
   ·simp only [yO,yh] at hc;exact .inl (.inr hc)
 have hlen:=h.len;refine ⟨⟨λi j c hi hj=>?_,λc hc=>?_,λc hc=>?_,λc hc=>h.own.foreign c (.inl hc),h.own.glob.fr (Fr.refl zd w) (λ_ x=>x.elim) hsub⟩,by simp [hlen],λi k hk=>?_,λu v hv=>⟨(h.tmp u v hv).1,V.rep_snoc hlen hsub v _ (h.tmp u v hv).2⟩,h.defers,h.size,h.fr,λc hc=>?_,λp hp=>⟨(h.gh p hp).1,V.rep_snoc hlen hsub p.1 _ (h.gh p hp).2⟩⟩
 ·rcases uA i bs.length with hib | hib
  ·rw [yg hib] at hi;rcases uA j bs.length with hjb | hjb
   ·rw [yg hjb] at hj;exact h.own.apart i j c hi hj
   ·rw [yD hjb] at hj;have:j - bs.length=0:=by have:=(yb.1 hj).1;simp at this;omega
    rw [this] at hj;simp at hj;subst hj;exact absurd (yu hi) hnb
  ·rw [yD hib] at hi;have e1:i - bs.length=0:=by have:=(yb.1 hi).1;simp at this;omega
   rw [e1] at hi;simp at hi;subst hi;rcases uA j bs.length with hjb | hjb
   ·rw [yg hjb] at hj;exact absurd (yu hj) hnb
   ·rw [yD hjb] at hj;have:=(yb.1 hj).1;simp at this;omega
 ·rcases yK.1 hc with hc | hc
  ·exact λhA'=>h.own.not c hc (.inl hA')
  ·simp only [yO,yh] at hc;subst hc;exact hA
 ·rcases yK.1 hc with hc | hc
  ·exact h.own.lt c hc
  ·simp only [yO,yh] at hc;subst hc;exact hbl
 ·rcases uA i s.H.length with hi | hi
  ·simp only at hk;rw [yg hi] at hk;exact Blk.rep_snoc hlen hsub i k (h.blk i k hk)
  ·simp only at hk;rw [yD hi] at hk;have e1:i - s.H.length=0:=by have:=(yb.1 hk).1;simp at this;omega
   have e2:i=s.H.length:=by omega
   rw [e1] at hk;simp at hk;subst hk;subst e2;exact hk0
 ·rcases yK.1 hc with hc | hc
  ·exact h.new c hc
  ·simp only [yO,yh] at hc;subst hc;exact .inr hlo
theorem R.newObj {C:Ctx} {bs:List (Option Nat)} {T:List (Nat×V)} {H:List Blk} {a:Act} {w:World} (h:R C bs ⟨T,H⟩ a w) (o:Obj) (k:Blk) (hk:k.rep (Own C.A0 (bs++[some w.heap.size])) (w.alloc o) (bs++[some w.heap.size]) (H++[k]) H.length) :
  R C (bs++[some w.heap.size]) ⟨T,H++[k]⟩ a (w.alloc o):=by
 have hfr:Fr zd w (w.alloc o):=⟨rfl,rfl,rfl,by simp,λb hb _=>Below.heap_alloc w _ b hb,λ_=>yn _⟩
 have hA0:¬ C.A0 w.heap.size:=λh'=>absurd (h.own.foreign _ h') (by omega)
 have h1:R { C with A0:=λc=>C.A0 c∨c=w.heap.size } bs ⟨T,H⟩ a (w.alloc o):=
  h.own_more (A:=λc=>C.A0 c∨c=w.heap.size) hfr (λb hb hb'=>hb'.elim id (λe=>by omega)) (λb hb=>by
   rcases hb with hb | rfl
   ·exact yL (h.own.foreign b hb) hfr.size
   ·simp)
 exact R.adoptK (C:=C) k h1 (heap_alloc_new w _) hA0 h.fr.size hk
section
variable {P:Program} {C:Ctx} {ops:Array Oper} {o:Oper} {rest:List Oper} {Q:Exit→St→Prop} {T:List (Nat×V)} {H:List Blk} {κ β:Type} [DecidableEq κ] {ke:κ→Value} {ve:β→D}
theorem TriL.makeMap {t} {d:Nat} (ke:κ→Value) (ve:β→D) (hg:o.guard=none) (ho:o.op = .makeMap t none) (hd:o.dst=some d) (hdn:Nat.blt d C.n=true)
  (kk:TriL P C ops rest Q ⟨(d,.mp H.length)::T,H++[GMap.blk ke ve GMap.empty]⟩):TriL P C ops (o::rest) Q ⟨T,H⟩:=by
 refine TriL.step hg (λbs a w hR=>?_) kk;have hrun:(execOp a.eval o).run P w = .ok (.value (.map (some w.heap.size))) (w.alloc (.map #[] 0)):=by
  simp only [execOp,ho,Option.map_none,Sem.run_bind,run_makeMap,Result.andThen_ok,Sem.run_pure]
 refine ⟨_,_,bs++[some w.heap.size],hrun,.inl ⟨_,rfl,?_⟩⟩;have hlen:=hR.len;simp only at hlen;have h2:=hR.newObj (.map #[] 0) (GMap.blk ke ve GMap.empty) (by
  simp only [GMap.blk,GMap.empty,Blk.rep];exact ⟨w.heap.size,#[],by rw [← hlen];simp,heap_alloc_new w _,by simp,by simp,by simp [D.reps]⟩)
 have:=h2.put (Fr.refl _ _) (some d) (by simpa [dstOK] using hdn) (v:=.mp H.length) (u:=.map (some w.heap.size)) (by
  simp only [V.rep];rw [yD (yn _)];simp only [uI,y6,GMap.blk];exact ⟨w.heap.size,by rw [← hlen];simp,rfl⟩)
 rw [hd];exact this
theorem ze9:∀ {l:List (Nat×κ×β)} {k:κ} {i:Nat} {v:β},findK k l=some (i,v)→∃ b,l[i]? = some (b,k,v)
 | [],_,_,_,h=>by simp [findK] at h
 | e::l,k,i,v,h=>by
  simp only [findK] at h;split at h
  ·rename_i hk;simp only [yh,yx] at h;obtain ⟨rfl,rfl⟩:=h;exact ⟨e.1,by simp [hk]⟩
  ·cases hf:findK k l with
   | none=>simp [hf] at h
   | some p=>
    obtain ⟨j,u⟩:=p;simp only [hf,yT,yh,yx] at h;obtain ⟨rfl,rfl⟩:=h;obtain ⟨b,hb⟩:=ze9 hf;exact ⟨b,by simpa using hb⟩
theorem reps_set {A w d v} (hv:d.rep A w v):∀ {ds:List D} {vs:List Value} (i:Nat),D.reps A w ds vs→D.reps A w (ds.set i d) (vs.set i v)
 | [],vs,i,h=>by simp only [D.reps] at h;subst h;simp [D.reps]
 | x::ds,vs,0,h=>by
  simp only [D.reps] at h;obtain ⟨u,us,rfl,h1,h2⟩:=h;simp only [List.set_cons_zero,D.reps];exact ⟨v,us,rfl,hv,h2⟩
 | x::ds,vs,i+1,h=>by
  simp only [D.reps] at h;obtain ⟨u,us,rfl,h1,h2⟩:=h;simp only [List.set_cons_succ,D.reps];exact ⟨u,_,rfl,h1,reps_set hv i h2⟩
theorem reps_erase {A w}:∀ {ds:List D} {vs:List Value} (i:Nat),D.reps A w ds vs→D.reps A w (ds.eraseIdx i) (vs.eraseIdx i)
 | [],vs,i,h=>by simp only [D.reps] at h;subst h;simp [D.reps]
 | x::ds,vs,0,h=>by
  simp only [D.reps] at h;obtain ⟨u,us,rfl,h1,h2⟩:=h;simpa using h2
 | x::ds,vs,i+1,h=>by
  simp only [D.reps] at h;obtain ⟨u,us,rfl,h1,h2⟩:=h;simp only [List.eraseIdx_cons_succ,D.reps];exact ⟨u,_,rfl,h1,reps_erase i h2⟩
theorem R.mapTurn {bs a w i b} {m m':GMap κ β} (h:R C bs ⟨T,H⟩ a w) (hi:H[i]? = some (GMap.blk ke ve m)) (hb:bs[i]? = some (some b)) {es es' cl} (hh:w.heap[b]? = some (.map es cl))
  (h1:es'.toList.map (·.born)=m'.es.map (·.1)) (h2:es'.toList.map (·.key)=m'.es.map λe=>ke e.2.1) (h3:D.reps (Own C.A0 bs) w (m'.es.map λe=>ve e.2.2) (es'.toList.map (·.val))) :
  R C bs ⟨T,H.set i (GMap.blk ke ve m')⟩ a { w with heap:=w.heap.setIfInBounds b (.map es' m'.clock) }:=by
 have hfr:Fr (λc=>some b=some c) w { w with heap:=w.heap.setIfInBounds b (.map es' m'.clock) }:=
  ⟨rfl,rfl,rfl,by simp,λc _ hno=>by simp [Array.getElem?_setIfInBounds_ne (λe:b=c=>hno (by rw [e]))],λ_=>yn _⟩
 have hset:bs.set i (some b)=bs:=by
  refine ui λq=>?_
  by_cases hij:i=q
  ·subst hij;rw [yt (yb.1 hb).1,hb]
  ·rw [yv hij]
 have hWA:∀ c,some b=some c→Own C.A0 bs c:=λc hc=>.inr (by rw [← hc];exact yu hb)
 have hlt:b<w.heap.size:=(ym.1 hh).1;have hupd:=R.upd (y:=GMap.blk ke ve m') (c':=some b) h hi hb (by simp [GMap.blk,Compat]) hfr (.inl rfl) (by
  simp only [GMap.blk,Blk.rep];refine ⟨b,es',by rw [yt (yb.1 hb).1],by simp [hlt],h1,h2,?_⟩;rw [hset];exact D.reps_fr hfr hWA (λc _ hc=>hc) _ _ h3)
 rw [hset] at hupd;exact hupd
theorem R.mapAt {bs a w i} {m:GMap κ β} {v} (h:R C bs ⟨T,H⟩ a w) (hi:H[i]? = some (GMap.blk ke ve m)) (hv:V.rep (Own C.A0 bs) w bs H (.mp i) v) :
  ∃ b es,bs[i]? = some (some b)∧v = .map (some b)∧w.heap[b]? = some (.map es m.clock)∧es.toList.map (·.born)=m.es.map (·.1)∧es.toList.map (·.key)=m.es.map (λe=>ke e.2.1)∧D.reps (Own C.A0 bs) w (m.es.map λe=>ve e.2.2) (es.toList.map (·.val)):=by
 have hblk:=h.blk i _ hi;simp only [GMap.blk,Blk.rep] at hblk;obtain ⟨b,es,h1,h2,h3,h4,h5⟩:=hblk;simp only [V.rep,hi,GMap.blk] at hv;obtain ⟨b',hb',rfl⟩:=hv;obtain rfl:b=b':=by rw [h1] at hb';simpa using hb'
 exact ⟨b,es,h1,rfl,h2,h3,h4,h5⟩
theorem TriL.mapPut0 {t kt et x y z i} {m:GMap κ β} {k:κ} {dk:D} {v} (hg:o.guard=none) (ho:o.op = .mapUpdate t x y z∨o.op = .insert t x y z) (hd:o.dst=none) (ht:P.underlying t=some (.map kt et)) (hK:KeyT P kt ke)
  (hx:ev T x=some (.mp i)) (hi:H[i]? = some (GMap.blk ke ve m)) (hy:ev T y=some (.d dk)) (hz:ev T z=some (.d (ve v)))
  (kk:TriL P C ops rest Q ⟨T,H.set i (GMap.blk ke ve (m.put k v))⟩) (hkd:IsV dk (ke k):=by exact .val _):TriL P C ops (o::rest) Q ⟨T,H⟩:=by
 refine TriL.step hg (λbs a w hR=>?_) kk;obtain ⟨b,es,h1,h2,h3,h4,h5,h6⟩:=hR.mapAt hi (hR.ev hx);have e2:=hkd.ev (hR.ev hy);have e3:=hR.ev hz;simp only [V.rep] at e3;have hlen:es.toList.length=m.es.length:=by have:=congrArg List.length h4;simpa using this
 have hfind:=hK.find k m.es es.toList w h5;cases hf:findK k m.es with
 | none=>
  simp only [hf,Option.bind_none] at hfind;have hrun:(execOp a.eval o).run P w = .ok .skip { w with heap:=w.heap.setIfInBounds b (.map (es.push { key:=ke k,val:=a.eval z,born:=m.clock }) (m.clock+1)) }:=by
   rcases ho with ho | ho <;> simp only [execOp,ho,h2,e2,Instr.mapUpdate,Sem.run_bind,run_underlying ht,MapKept.run_getObj_map h3,hK.check,hfind,MapKept.run_setObj_map _ h3,Result.andThen_ok,Sem.run_pure]
  have hput:m.put k v=⟨m.es++[(m.clock,k,v)],m.clock+1,wfM_push m.wf k v⟩:=by simp [GMap.put,hf]
  refine ⟨_,_,bs,hrun,.inr ⟨rfl,?_⟩⟩;rw [hd,hput];exact R.mapTurn (m':=⟨m.es++[(m.clock,k,v)],m.clock+1,wfM_push m.wf k v⟩) hR hi h1 h3 (by simp [h4]) (by simp [h5]) (by
   simp only [ul,yM,List.map_nil,Array.toList_push];exact D.reps_append h6 (by simp only [D.reps];exact ⟨_,[],rfl,e3,rfl⟩))
 | some p=>
  obtain ⟨j,u⟩:=p;obtain ⟨bj,hj⟩:=ze9 hf;have hjl:j<es.toList.length:=by rw [hlen];exact (yb.1 hj).1
  have hje:es[j]? = some es[j]:=uh (by simpa using hjl);have hjk:es[j].key=ke k:=by
   have h:=congrArg (λl=>l[j]?) h5;simp only [y8,hj,yY,hje,yT,yh] at h;exact h
  simp only [hf,ya,yY,hje,yT] at hfind;have hrun:(execOp a.eval o).run P w = .ok .skip { w with heap:=w.heap.setIfInBounds b (.map (es.modify j λe=>{ e with key:=ke k,val:=a.eval z }) m.clock) }:=by
   rcases ho with ho | ho <;> simp only [execOp,ho,h2,e2,Instr.mapUpdate,Sem.run_bind,run_underlying ht,MapKept.run_getObj_map h3,hK.check,hfind,Result.andThen_ok,Sem.run_pure,hje,yT,yf,hjk,Instr.keyThatStays,hK.bits,if_true,MapKept.run_setObj_map _ h3]
  have hput:m.put k v=⟨m.es.modify j (λe=>(e.1,e.2.1,v)),m.clock,wfM_modify m.wf j v⟩:=by simp [GMap.put,hf]
  refine ⟨_,_,bs,hrun,.inr ⟨rfl,?_⟩⟩;rw [hd,hput];have hmod:∀ {α γ:Type} (l:List α) (f:α→α) (g:α→γ) (n:Nat),(∀ x,l[n]? = some x→g (f x)=g x)→(l.modify n f).map g=l.map g:=by
   intro α γ l f g n hfg;refine ui λq=>?_
   simp only [y8,List.getElem?_modify];by_cases hq:n=q
   ·subst hq;cases hl:l[n]? with
    | none=>simp
    | some x=>simp [hfg x hl]
   ·simp [hq]
  have hmods:∀ {α γ:Type} (l:List α) (f:α→α) (g:α→γ) (n:Nat) (c:γ),(∀ x,l[n]? = some x→g (f x)=c)→(l.modify n f).map g=(l.map g).set n c:=by
   intro α γ l f g n c hfg;refine ui λq=>?_
   simp only [y8,List.getElem?_modify,List.getElem?_set,yS];by_cases hq:n=q
   ·subst hq;cases hl:l[n]? with
    | none=>have:=List.getElem?_eq_none_iff.1 hl;simp;omega
    | some x=>have:=(yb.1 hl).1;simp [hfg x hl,this]
   ·simp [hq]
  exact R.mapTurn (m':=⟨m.es.modify j (λe=>(e.1,e.2.1,v)),m.clock,wfM_modify m.wf j v⟩) hR hi h1 h3
   (by rw [Array.toList_modify];exact (hmod es.toList (λe=>{ e with key:=ke k,val:=a.eval z }) (·.born) j (λ_ _=>rfl)).trans (h4.trans (hmod m.es (λe=>(e.1,e.2.1,v)) (·.1) j (λ_ _=>rfl)).symm))
   (by rw [Array.toList_modify];exact (hmod es.toList (λe=>{ e with key:=ke k,val:=a.eval z }) (·.key) j (λx hx=>by rw [yY,hje] at hx;cases hx;exact hjk.symm)).trans (h5.trans (hmod m.es (λe=>(e.1,e.2.1,v)) (λe=>ke e.2.1) j (λ_ _=>rfl)).symm))
   (by
    rw [Array.toList_modify,hmods es.toList (λe=>{ e with key:=ke k,val:=a.eval z }) (·.val) j (a.eval z) (λ_ _=>rfl),hmods m.es (λe=>(e.1,e.2.1,v)) (λe=>ve e.2.2) j (ve v) (λ_ _=>rfl)];exact reps_set e3 j h6)
theorem TriL.mapPut {t kt et x y z i} {m:GMap κ β} {k:κ} {dk:D} {v} (hg:o.guard=none) (ho:o.op = .mapUpdate t x y z) (hd:o.dst=none) (ht:P.underlying t=some (.map kt et)) (hK:KeyT P kt ke)
  (hx:ev T x=some (.mp i)) (hi:H[i]? = some (GMap.blk ke ve m)) (hy:ev T y=some (.d dk)) (hz:ev T z=some (.d (ve v)))
  (kk:TriL P C ops rest Q ⟨T,H.set i (GMap.blk ke ve (m.put k v))⟩) (hkd:IsV dk (ke k):=by exact .val _):TriL P C ops (o::rest) Q ⟨T,H⟩:=.mapPut0 hg (.inl ho) hd ht hK hx hi hy hz kk hkd
theorem TriL.mapDel {t kt et kt' x y i} {m:GMap κ β} {k:κ} {dk:D} (hg:o.guard=none) (ho:o.op = .call { callee:=.builtin .delete,args:=#[x,y],argTypes:=#[t,kt'] }) (hd:o.dst=none) (ht:P.underlying t=some (.map kt et)) (hK:KeyT P kt ke)
  (hx:ev T x=some (.mp i)) (hi:H[i]? = some (GMap.blk ke ve m)) (hy:ev T y=some (.d dk))
  (kk:TriL P C ops rest Q ⟨T,H.set i (GMap.blk ke ve (m.del k))⟩) (hkd:IsV dk (ke k):=by exact .val _):TriL P C ops (o::rest) Q ⟨T,H⟩:=by
 refine TriL.step hg (λbs a w hR=>?_) kk;obtain ⟨b,es,h1,h2,h3,h4,h5,h6⟩:=hR.mapAt hi (hR.ev hx);have e2:=hkd.ev (hR.ev hy);have hlen:es.toList.length=m.es.length:=by have:=congrArg List.length h4;simpa using this
 have hfind:=hK.find k m.es es.toList w h5;cases hf:findK k m.es with
 | none=>
  simp only [hf,Option.bind_none] at hfind;have hrun:(execOp a.eval o).run P w = .ok (.value (.tuple #[])) { w with heap:=w.heap.setIfInBounds b (.map es m.clock) }:=by
   simp [execOp,ho,resolve,invoke,builtin,Builtin.delete_,h2,e2,run_underlying ht,MapKept.run_getObj_map h3,hK.check,hfind,MapKept.run_setObj_map _ h3]
  have hput:m.del k=m:=by simp [GMap.del,hf]
  refine ⟨_,_,bs,hrun,.inl ⟨_,rfl,?_⟩⟩;rw [hd,hput];exact R.mapTurn (m':=m) hR hi h1 h3 h4 h5 h6
 | some p=>
  obtain ⟨j,u⟩:=p;obtain ⟨bj,hj⟩:=ze9 hf;have hjl:j<es.toList.length:=by rw [hlen];exact (yb.1 hj).1
  have hje:es[j]? = some es[j]:=uh (by simpa using hjl);simp only [hf,ya,yY,hje,yT] at hfind;have hrun:(execOp a.eval o).run P w = .ok (.value (.tuple #[])) { w with heap:=w.heap.setIfInBounds b (.map (es.eraseIdxIfInBounds j) m.clock) }:=by
   simp [execOp,ho,resolve,invoke,builtin,Builtin.delete_,h2,e2,run_underlying ht,MapKept.run_getObj_map h3,hK.check,hfind,MapKept.run_setObj_map _ h3]
  have hput:m.del k=⟨m.es.eraseIdx j,m.clock,wfM_erase m.wf j⟩:=by simp [GMap.del,hf]
  have hto:(es.eraseIdxIfInBounds j).toList=es.toList.eraseIdx j:=by
   unfold Array.eraseIdxIfInBounds;rw [dif_pos (by simpa using hjl),Array.toList_eraseIdx]
  have hmap:∀ {α γ:Type} (l:List α) (g:α→γ),(l.eraseIdx j).map g=(l.map g).eraseIdx j:=λl g=>by
   rw [List.eraseIdx_eq_take_drop_succ,List.eraseIdx_eq_take_drop_succ,ul,List.map_take,List.map_drop]
  refine ⟨_,_,bs,hrun,.inl ⟨_,rfl,?_⟩⟩;rw [hd,hput];exact R.mapTurn (m':=⟨m.es.eraseIdx j,m.clock,wfM_erase m.wf j⟩) hR hi h1 h3 (by rw [hto,hmap,hmap,h4]) (by rw [hto,hmap,hmap,h5]) (by rw [hto,hmap,hmap];exact reps_erase j h6)
variable {e:Operand→Option V}
theorem OpV.mapGet {t kt et x y i} {m:GMap κ β} {k:κ} {dk:D} {z} (ho:o.op = .lookup t x y false) (ht:P.underlying t=some (.map kt et)) (hK:KeyT P kt ke)
  (hx:e x=some (.mp i)) (hi:H[i]? = some (GMap.blk ke ve m)) (hy:e y=some (.d dk)) (hz:ZeroD P et (ve z)) (hkd:IsV dk (ke k):=by exact .val _):OpV P o e H (.d (ve ((m.get? k).getD z))):=
 .of_same λA0 bs w f mm hf=>by
  have h0:=hf x (by simp [ho,Op.operands]) _ hx;have e2:=hkd.ev (hf y (by simp [ho,Op.operands]) _ hy);have hblk:=mm.blk i _ hi;simp only [GMap.blk,Blk.rep] at hblk;obtain ⟨b,es,h1,h3,h4,h5,h6⟩:=hblk;simp only [V.rep,hi,GMap.blk] at h0;obtain ⟨b',hb',h2⟩:=h0;obtain rfl:b=b':=by rw [h1] at hb';simpa using hb'
  have hlen:es.toList.length=m.es.length:=by have:=congrArg List.length h4;simpa using this
  have hfind:=hK.find k m.es es.toList w h5;obtain ⟨zv,hz1,hz2⟩:=hz.out;have hzr:(zeroValue et).run P w = .ok zv w:=by
   unfold zb3 at hz1;cases hi:P.info? et with
   | none=>simp [hi] at hz1
   | some inf=>simp only [hi] at hz1;simp [zeroValue,typeInfo,hi,hz1]
  cases hf:findK k m.es with
  | none=>
   simp only [hf,Option.bind_none] at hfind;refine ⟨zv,by simp [execOp,ho,h2,e2,Instr.lookup,run_underlying ht,MapKept.run_getObj_map h3,hK.check,hfind,hzr],?_⟩;simp only [V.rep,GMap.get?,hf,Option.map_none,Option.getD_none];exact hz2 _ _
  | some p=>
   obtain ⟨j,u⟩:=p;obtain ⟨bj,hj⟩:=ze9 hf;have hjl:j<es.toList.length:=by rw [hlen];exact (yb.1 hj).1
   have hje:es[j]? = some es[j]:=uh (by simpa using hjl);simp only [hf,ya,yY,hje,yT] at hfind;refine ⟨es[j].val,by simp [execOp,ho,h2,e2,Instr.lookup,run_underlying ht,MapKept.run_getObj_map h3,hK.check,hfind],?_⟩;simp only [V.rep,GMap.get?,hf,yT,yf];obtain ⟨v,g1,g2⟩:=D.reps_get h6 j (ve u) (by simp [y8,hj]);simp only [y8,yY,hje,yT,yh] at g1;rw [g1];exact g2
theorem OpV.mapGetD {t kt et x y} {m:GMap κ β} {k:κ} {dk:D} {z} (ho:o.op = .lookup t x y false) (ht:P.underlying t=some (.map kt et)) (hK:KeyT P kt ke)
  (hx:e x=some (.d (GMap.dat ke ve m))) (hy:e y=some (.d dk)) (hz:ZeroD P et (ve z)) (hkd:IsV dk (ke k):=by exact .val _):OpV P o e H (.d (ve ((m.get? k).getD z))):=
 .of_same λA0 bs w f mm hf=>by
  have h0:=hf x (by simp [ho,Op.operands]) _ hx;have e2:=hkd.ev (hf y (by simp [ho,Op.operands]) _ hy);simp only [V.rep,GMap.dat,D.rep] at h0;obtain ⟨b,es,cl,h2,_,_,h3,h5,_,h6⟩:=h0;have hlen:es.toList.length=m.es.length:=by have:=congrArg List.length h5;simpa using this
  have hfind:=hK.find k m.es es.toList w h5;obtain ⟨zv,hz1,hz2⟩:=hz.out;have hzr:(zeroValue et).run P w = .ok zv w:=by
   unfold zb3 at hz1;cases hi:P.info? et with
   | none=>simp [hi] at hz1
   | some inf=>simp only [hi] at hz1;simp [zeroValue,typeInfo,hi,hz1]
  cases hf:findK k m.es with
  | none=>
   simp only [hf,Option.bind_none] at hfind;refine ⟨zv,by simp [execOp,ho,h2,e2,Instr.lookup,run_underlying ht,MapKept.run_getObj_map h3,hK.check,hfind,hzr],?_⟩;simp only [V.rep,GMap.get?,hf,Option.map_none,Option.getD_none];exact hz2 _ _
  | some p=>
   obtain ⟨j,u⟩:=p;obtain ⟨bj,hj⟩:=ze9 hf;have hjl:j<es.toList.length:=by rw [hlen];exact (yb.1 hj).1
   have hje:es[j]? = some es[j]:=uh (by simpa using hjl);simp only [hf,ya,yY,hje,yT] at hfind;refine ⟨es[j].val,by simp [execOp,ho,h2,e2,Instr.lookup,run_underlying ht,MapKept.run_getObj_map h3,hK.check,hfind],?_⟩;simp only [V.rep,GMap.get?,hf,yT,yf];obtain ⟨v,g1,g2⟩:=D.reps_get h6 j (ve u) (by simp [y8,hj]);simp only [y8,yY,hje,yT,yh] at g1;rw [g1];exact g2
theorem OpV.mapLen {t kt et x i} {m:GMap κ β} (ho:o.op = .call { callee:=.builtin .len,args:=#[x],argTypes:=#[t] }) (ht:P.underlying t=some (.map kt et)) (hx:e x=some (.mp i)) (hi:H[i]? = some (GMap.blk ke ve m)):OpV P o e H (.d (.int (m.es.length:Int))):=
 .of_same λA0 bs w f mm hf=>by
  have h0:=hf x (by simp [ho,Op.operands,Call.operands]) _ hx;have hblk:=mm.blk i _ hi;simp only [GMap.blk,Blk.rep] at hblk;obtain ⟨b,es,h1,h3,h4,h5,h6⟩:=hblk;simp only [V.rep,hi,GMap.blk] at h0;obtain ⟨b',hb',h2⟩:=h0;obtain rfl:b=b':=by rw [h1] at hb';simpa using hb'
  have hlen:es.size=m.es.length:=by have:=congrArg List.length h4;simpa using this
  refine ⟨.int .i64 m.es.length,by simp [execOp,ho,resolve,invoke,builtin,Builtin.len_,h2,run_underlying ht,MapKept.run_getObj_map h3,goInt,hlen],zr.2 rfl⟩
theorem TriL.mapRange {t kt et:TypeId} {x:Operand} {i d:Nat} {m:GMap κ β} (hg:o.guard=none) (ho:o.op = .range t x) (hd:o.dst=some d) (hdn:Nat.blt d C.n=true) (ht:P.underlying t=some (.map kt et)) (hx:ev T x=some (.mp i)) (hi:H[i]? = some (GMap.blk ke ve m))
  (kk:TriL P C ops rest Q ⟨(d,.itp H.length)::T,H++[.it i m.clock [] m.clock]⟩):TriL P C ops (o::rest) Q ⟨T,H⟩:=by
 refine TriL.step hg (λbs a w hR=>?_) kk;obtain ⟨b,es,h1,h2,h3,_⟩:=hR.mapAt hi (hR.ev hx);have hrun:(execOp a.eval o).run P w = .ok (.value (.pointer (some ⟨w.heap.size,0,none⟩))) (w.alloc (.mapIter (some b) m.clock #[] m.clock)):=by
  simp only [execOp,ho,h2,Sem.run_bind,run_range_map w t kt et b es m.clock ht h3,Result.andThen_ok,Sem.run_pure]
 refine ⟨_,_,bs++[some w.heap.size],hrun,.inl ⟨_,rfl,?_⟩⟩;have hlen:=hR.len;simp only at hlen;have hiH:=(yb.1 hi).1;have h2:=hR.newObj (.mapIter (some b) m.clock #[] m.clock) (.it i m.clock [] m.clock) (by
  simp only [Blk.rep];rw [yg hiH,hi];simp only [GMap.blk];exact ⟨w.heap.size,b,by rw [← hlen];simp,by rw [yg (by omega)];exact h1,heap_alloc_new w _⟩)
 have:=h2.put (Fr.refl _ _) (some d) (by simpa [dstOK] using hdn) (v:=.itp H.length) (u:=.pointer (some ⟨w.heap.size,0,none⟩)) (by
  simp only [V.rep];rw [yD (yn _)];simp only [uI,y6];exact ⟨w.heap.size,by rw [← hlen];simp,rfl⟩)
 rw [hd];exact this
def GMap.left {κ β:Type} (m:GMap κ β) (seen:List Nat):List (Nat×κ×β):=m.es.filter λe=>!seen.contains e.1
def GMap.old {κ β:Type} (m:GMap κ β) (since last:Nat):Bool:=m.es.all (λe=>decide (e.1<since))&&decide (since≤last)
theorem leftOf_list (es:Array MapEntry) (seen:List Nat):(leftOf es seen.toArray).toList=es.toList.filter λe=>!seen.contains e.born:=by
 simp [leftOf]
theorem TriL.mapNext {x} {i j d since last:Nat} {seen:List Nat} {m:GMap κ β} (hg:o.guard=none) (ho:o.op = .next x false) (hd:o.dst=some d) (hdn:Nat.blt d C.n=true) (hx:ev T x=some (.itp i)) (hi:H[i]? = some (.it j since seen last)) (hj:H[j]? = some (GMap.blk ke ve m)) (hc:m.old since last=true)
  (hend:m.left seen=[]→TriL P C ops rest Q ⟨(d,.d (.tup [.bool false]))::T,H⟩)
  (hstep:∀ e∈m.left seen,TriL P C ops rest Q ⟨(d,.d (.tup [.bool true,.val (ke e.2.1),ve e.2.2]))::T,H.set i (.it j since (seen++[e.1]) m.clock)⟩):TriL P C ops (o::rest) Q ⟨T,H⟩:=by
 refine ⟨λbs a w hR=>wpList_plain hg λK hK=>?_⟩;have h0:=hR.ev hx;have hbi:=hR.blk i _ hi;have hbj:=hR.blk j _ hj;simp only [GMap.blk,Blk.rep] at hbj;obtain ⟨bm,es,g1,g2,g3,g4,g5⟩:=hbj;simp only [Blk.rep,hj,GMap.blk] at hbi;obtain ⟨b,bm',k1,k2,k3⟩:=hbi;obtain rfl:bm=bm':=by rw [g1] at k2;simpa using k2
 simp only [V.rep,hi] at h0;obtain ⟨b',hb',h2⟩:=h0;obtain rfl:b=b':=by rw [k1] at hb';simpa using hb'
 simp only [GMap.old,yc,yo,yd] at hc;have hlen:es.toList.length=m.es.length:=by have:=congrArg List.length g3;simpa using this
 have hget:∀ (q:Nat) (y:MapEntry),es.toList[q]? = some y→∃ e,m.es[q]? = some e∧e.1=y.born∧ke e.2.1=y.key:=by
  intro q y hy;have hq:q<m.es.length:=by rw [← hlen];exact (yb.1 hy).1
  refine ⟨m.es[q],yA hq,?_,?_⟩
  ·have h:=congrArg (λl=>l[q]?) g3;simp only [y8,hy,yA hq,yT,yh] at h;exact h.symm
  ·have h:=congrArg (λl=>l[q]?) g4;simp only [y8,hy,yA hq,yT,yh] at h;exact h.symm
 have hnext:=run_next_at (P:=P) w o.type b bm since last seen.toArray es m.clock k3 g2 (λy hy=>by
  obtain ⟨q,hq⟩:=List.getElem?_of_mem hy;obtain ⟨e,he,h1,_⟩:=hget q y hq;rw [← h1];exact hc.1 e (yu he)) hc.2
 unfold Oper.wp;have hex:(execOp a.eval o).run P w=((Instr.next (.pointer (some ⟨b,0,none⟩)) false o.type).run P w).andThen λv w'=>.ok (.value v) w':=by
  simp only [execOp,ho,h2,Sem.run_bind,Sem.run_pure]
 rw [hex];rcases hnext with ⟨hz,hrun⟩ | ⟨y,hy,w1,hw1,hrun⟩
 ·rw [hrun];simp only [Result.andThen_ok,Oper.upon];refine hK _ _ ((hend ?_).run bs _ _ ?_)
  ·have hl0:(leftOf es seen.toArray).toList=[]:=yW (by simpa using hz);rw [leftOf_list] at hl0;rw [GMap.left,uC];intro e he;obtain ⟨q,hq⟩:=List.getElem?_of_mem he;have hq2:q<es.toList.length:=by rw [hlen];exact (yb.1 hq).1
   obtain ⟨e',he',h1,_⟩:=hget q es.toList[q] (yA hq2);rw [hq] at he';cases he';have:=(uC.1 hl0) es.toList[q] (yk hq2);rw [← h1] at this;exact this
  ·have:=hR.put (Fr.refl _ _) (some d) (by simpa [dstOK] using hdn) (v:=.d (.tup [.bool false])) (u:=.tuple #[.bool false]) (by simp only [V.rep,D.rep];exact ⟨#[.bool false],rfl,by simp [D.reps,D.rep]⟩);rw [hd];exact this
 ·rw [hrun];simp only [Result.andThen_ok,Oper.upon];rw [leftOf_list] at hy;obtain ⟨hy1,hy2⟩:=List.mem_filter.1 hy;obtain ⟨q,hq⟩:=List.getElem?_of_mem hy1;obtain ⟨e,he,h1,h3⟩:=hget q y hq;have hmem:e∈m.left seen:=List.mem_filter.2 ⟨yu he,by rw [h1];exact hy2⟩;refine hK _ _ ((hstep e hmem).run bs _ _ ?_);have hR1:R C bs ⟨T,H⟩ a w1:=by
   rcases hw1 with rfl | rfl
   ·exact hR
   ·exact hR.drew
  have hheap:w1.heap=w.heap:=by rcases hw1 with rfl | rfl <;> rfl
  have hlt:b<w1.heap.size:=by rw [hheap];exact (ym.1 k3).1
  have hfr:Fr (λc=>some b=some c) w1 (ChangeMaps.setBlock w1 b (.mapIter (some bm) since (seen.toArray.push y.born) m.clock)):=
   ⟨rfl,rfl,rfl,by simp [ChangeMaps.setBlock],λc _ hno=>by simp [ChangeMaps.setBlock,Array.getElem?_setIfInBounds_ne (λe:b=c=>hno (by rw [e]))],λ_=>yn _⟩
  have hset:bs.set i (some b)=bs:=by
   refine ui λq=>?_
   by_cases hij:i=q
   ·subst hij;rw [yt (yb.1 k1).1,k1]
   ·rw [yv hij]
  have hij:i≠j:=λh=>by subst h;rw [hi] at hj;simp [GMap.blk] at hj
  have hupd:=R.upd (y:=.it j since (seen++[e.1]) m.clock) (c':=some b) hR1 hi k1 (by simp [Compat]) hfr (.inl rfl) (by
   simp only [Blk.rep];rw [yv hij,hj];simp only [GMap.blk];exact ⟨b,bm,by rw [hset];exact k1,by rw [hset];exact g1,by simp [ChangeMaps.setBlock,hlt,h1]⟩)
  rw [hset] at hupd;have hval:D.rep (Own C.A0 bs) (ChangeMaps.setBlock w1 b (.mapIter (some bm) since (seen.toArray.push y.born) m.clock)) (ve e.2.2) y.val:=by
   obtain ⟨v,f1,f2⟩:=D.reps_get g5 q (ve e.2.2) (by simp [y8,he]);simp only [y8,hq,yT,yh] at f1;rw [f1];have hfr0:Fr zd w w1:=by
    rcases hw1 with rfl | rfl
    ·exact Fr.refl _ _
    ·exact (Fr.refl zd w).drew
   exact D.rep_fr (W:=λc=>some b=some c) hfr (λc hc=>.inr (by rw [← hc];exact yu k1)) (λ_ _ h=>h) _ _ (D.rep_ext hfr0 f2)
  have:=hupd.put (Fr.refl _ _) (some d) (by simpa [dstOK] using hdn) (v:=.d (.tup [.bool true,.val (ke e.2.1),ve e.2.2])) (u:=.tuple #[.bool true,y.key,y.val]) (by
   simp only [V.rep,D.rep];exact ⟨_,rfl,by simp only [D.reps,D.rep];exact ⟨_,_,rfl,rfl,_,_,rfl,h3.symm,_,[],rfl,hval,rfl⟩⟩)
  rw [hd];exact this
theorem OpV.entry {x i j since seen} {m:GMap κ β} {en:Nat×κ×β} (ho:o.op = .entry x) (hx:e x=some (.itp i)) (hi:H[i]? = some (.it j since (seen++[en.1]) m.clock)) (hj:H[j]? = some (GMap.blk ke ve m)) (he:en∈m.es) (hn:(m.es.map (·.1)).Nodup) :
  OpV P o e H (.d (.tup [.val (ke en.2.1),ve en.2.2])):=
 .of_same λA0 bs w f mm hf=>by
  have h0:=hf x (by simp [ho,Op.operands]) _ hx;have hbi:=mm.blk i _ hi;have hbj:=mm.blk j _ hj;simp only [GMap.blk,Blk.rep] at hbj;obtain ⟨bm,es,g1,g2,g3,g4,g5⟩:=hbj;simp only [Blk.rep,hj,GMap.blk] at hbi;obtain ⟨b,bm',k1,k2,k3⟩:=hbi;obtain rfl:bm=bm':=by rw [g1] at k2;simpa using k2
  simp only [V.rep,hi] at h0;obtain ⟨b',hb',h2⟩:=h0;obtain rfl:b=b':=by rw [k1] at hb';simpa using hb'
  obtain ⟨q,hq⟩:=List.getElem?_of_mem he;have hlen:es.toList.length=m.es.length:=by have:=congrArg List.length g3;simpa using this
  have hql:q<es.toList.length:=by rw [hlen];exact (yb.1 hq).1
  have hqe:=yA hql;have h1:es.toList[q].born=en.1:=by
   have h:=congrArg (λl=>l[q]?) g3;simpa only [y8,hq,hqe,yT,yh] using h
  have h3:es.toList[q].key=ke en.2.1:=by
   have h:=congrArg (λl=>l[q]?) g4;simpa only [y8,hq,hqe,yT,yh] using h
  have hent:=run_entry_at (P:=P) w b bm since seen.toArray es m.clock es.toList[q] (by rw [k3,h1];simp) g2 (yk hql) (by rw [g3];exact hn);obtain ⟨v,f1,f2⟩:=D.reps_get g5 q (ve en.2.2) (by simp [y8,hq]);simp only [y8,hqe,yT,yh] at f1;refine ⟨.tuple #[es.toList[q].key,es.toList[q].val],by simp only [execOp,ho,h2,Sem.run_bind,hent,Result.andThen_ok,Sem.run_pure],?_⟩;simp only [V.rep,D.rep];exact ⟨_,rfl,by simp only [D.reps,D.rep];exact ⟨_,_,rfl,h3,_,[],rfl,by rw [f1];exact f2,rfl⟩⟩
noncomputable def zga {α R:Type} (l:List α) (k:α→Option R):Option R:=open Classical in
 match l with
 | []=>none
 | a::l=>if ∀ b∈a::l,k b=k a then k a else none
theorem chooseAll_mem {α R:Type} {l:List α} {k:α→Option R} {r:R} (h:zga l k=some r):∀ a∈l,k a=some r:=by
 unfold zga at h;split at h
 ·cases h
 ·rename_i a l;split at h
  ·rename_i hall;intro b hb;rw [hall b hb,h]
  ·cases h
theorem chooseAll_all {α R:Type} {l:List α} {k:α→Option R} {r:R} (hne:l≠[]) (h:∀ a∈l,k a=some r):zga l k=some r:=by
 unfold zga;split
 ·exact absurd rfl hne
 ·rename_i a l;rw [if_pos (λb hb=>by rw [h b hb,h a (by simp)])];exact h a (by simp)
noncomputable def stepM {κ β R:Type} (m:GMap κ β) (seen:List Nat) (since last:Nat) (over:Option R) (k:Nat×κ×β→Option R):Option R:=
 grd (m.old since last) (if (m.left seen).isEmpty=true then over else zga (m.left seen) k)
theorem stepM_S {κ β R:Type} {m:GMap κ β} {seen:List Nat} {since last:Nat} {over:Option R} {k:Nat×κ×β→Option R} {r:R} (h:stepM m seen since last over k=some r) :
  m.old since last=true∧(m.left seen=[]→over=some r)∧∀ e∈m.left seen,k e=some r:=by
 obtain ⟨h1,h2⟩:=grdS h;refine ⟨h1,λh3=>by rw [h3] at h2;simpa using h2,λe he=>?_⟩;rw [if_neg (by intro h3;rw [List.isEmpty_iff.1 h3] at he;cases he)] at h2;exact chooseAll_mem h2 e he
def evsV (e:Operand→Option V):List Operand→Option (List V)
 | []=>some []
 | x::xs=>match e x,evsV e xs with
  | some v,some vs=>some (v::vs)
  | _,_=>none
theorem zgc {A w bs f e}:∀ {xs:List Operand} {vs:List V},evsV e xs=some vs→(∀ x∈xs,∀ y,e x=some y→V.rep A w bs H y (f x))→V.reps A w bs H vs (xs.map f)
 | [],vs,h,_=>by simp only [evsV,yh] at h;subst h;simp [V.reps]
 | x::xs,vs,h,hf=>by
  simp only [evsV] at h;split at h
  ·rename_i v vs' h1 h2;cases h;simp only [yM,V.reps];exact ⟨_,_,rfl,hf x (by simp) _ h1,zgc h2 λy hy=>hf y (by simp [hy])⟩
  ·cases h
theorem OpV.makeFuncV {g cs vs} (ho:o.op = .makeFunc (.func g) #[] cs) (hc:evsV e cs.toList=some vs):OpV P o e H (.fn (.func g) [] vs):=
 .of_same λA0 bs w f _ hf=>by
  refine ⟨.func (.func g) #[] (cs.map f),by simp [execOp,ho,Instr.makeFunc],?_⟩;simp only [V.rep];refine ⟨#[],cs.map f,rfl,by simp [V.reps],?_⟩;have:=zgc (A:=Own A0 bs) (w:=w) (bs:=bs) (H:=H) (f:=f) hc (λx hx=>hf x (by simp [ho,Op.operands];simpa using hx));simpa using this
omit [DecidableEq κ] in
theorem Tri.condT {s c x y} (hc:ev s.T c=some (.d (.bool true))) (h:Tri P C x Q s):Tri P C (.cond c x y) Q s:=Tri.cond hc (λ_=>h) (λh=>(by cases h))
omit [DecidableEq κ] in
theorem Tri.condF {s c x y} (hc:ev s.T c=some (.d (.bool false))) (h:Tri P C y Q s):Tri P C (.cond c x y) Q s:=Tri.cond hc (λh=>(by cases h)) (λ_=>h)
end
end
section
variable [Globs] [Drw]
def bodyOf (P:Program) (f:FuncId):Code:=match P.funcs[f]? with | some fn=>fn.body.getD .skip | none=>.skip
theorem ze7 {P f fn c} (hf:P.funcs[f]? = some fn) (hb:fn.body=some c):bodyOf P f=c:=by simp [bodyOf,hf,hb]
theorem zgL {P n ops} {Q0 Q':Exit→Act→World→Prop} (hno:∀ e a w,Q0 e a w→e = .normal) {post} (hk:∀ a w,Q0 .normal a w→wpListIn Fence.wide n P ops Q' post a w) :
  ∀ (pre:List Oper) (a:Act) (w:World),wpList P ops Q0 pre a w→wpListIn Fence.wide n P ops Q' (pre++post) a w
 | [],a,w,h=>hk a w h
 | o::pre,a,w,h=>by
  simp only [wpList] at h;simp only [y7,wpListIn];split <;> rename_i hw
  ·rw [if_pos hw] at h;rcases h with h | ⟨_,a',w',h⟩
   ·refine ⟨λf _=>trivial,?_⟩;unfold Oper.wp at h;have hs:(o.semAt Fence.wide.round a.eval)=execOp a.eval o:=rfl;rw [hs];generalize (execOp a.eval o).run P w=r at h;have ih:=λa w h=>zgL hno hk pre a w h
    cases r with
    | ok nx w'=>
     cases nx with
     | value v=>exact ih _ _ h
     | skip=>exact ih _ _ h
     | defer d=>exact ih _ _ h
     | enter f args=>
      refine ⟨λhd=>by simp [Fence.wide] at hd,callsIn_wide.2 (Calls.mono h λe w'' he=>?_)⟩;cases e with
      | returned v=>exact ih _ _ he
      | panicked chain=>exact absurd (hno _ _ _ he) (by simp)
      | outgrown=>obtain ⟨a',w',he⟩:=he;exact absurd (hno _ _ _ he) (by simp)
     | row row args=>
      refine ⟨λhd=>by simp [Fence.wide] at hd,RowsIn.mono (R:=λv w''=>wpList P ops Q0 pre (a.put o.dst v) w'') (λc cs _=>?_) λv w'' he=>ih _ _ he⟩;obtain ⟨v,w1,r,s⟩:=h c cs;exact ⟨v,w1,r,stepsIn_wide.2 s⟩
     | _=>exact h.elim
    | halt x w'=>
     cases x with
     | panic v=>exact absurd (hno _ _ _ h) (by simp)
     | _=>exact h.elim
   ·exact absurd (hno _ _ _ h) (by simp)
  ·rw [if_neg hw] at h;exact ⟨λf _=>trivial,zgL hno hk pre _ _ h⟩
theorem calls_of_triE {P f fn c xs A w vs} {Post:World→Prop} (hf:P.funcs[f]? = some fn) (hb:fn.body=some c) (hres:fn.results = #[]) (hn:xs.length≤fn.ntmps)
  (hA:∀ b,A b→b<w.heap.size) (hG:zd1 A w) (hr:D.reps A w xs vs.toList)
  (h:Tri P ⟨A,zd,w,fn.ntmps,λa w'=>a.defers=[]∧Post w',[],0,[]⟩ c (λ_ _=>False) ⟨params 0 xs,[]⟩):Calls P f vs w (λe w'=>(∃ u,e = .returned u)∧Post w'):=by
 have hlen:=D.reps_len hr;refine calls_of_wp hf hb (Code.wp_mono ?_ (h.run [] _ w ?_))
 ·rintro e a' w' (⟨_,_,hq,_⟩ | ⟨rfl,hd,hp⟩)
  ·exact hq.elim
  ·refine ⟨hd,.tuple #[],?_,⟨_,rfl⟩,hp⟩;rw [zdz,hres];simp
 ·have hsz:(vs++Array.replicate (fn.ntmps - vs.size) undef).size=fn.ntmps:=by
   simp only [yC] at hlen;simp;omega
  refine ⟨⟨by simp,by simp,by simp,hA,hG.fr (Fr.refl zd w) (λ_ x=>x.elim) (λb _ hb=>hb.elim id (λh=>by simp at h))⟩,rfl,by simp,λt v hv=>?_,rfl,hsz,Fr.refl _ _,by simp,λp hp=>(by cases hp)⟩;have:=zer (A:=Own A []) (w:=w) (bs:=[]) (H:=[]) xs 0 vs.toList (vs++Array.replicate (fn.ntmps - vs.size) undef)
   (D.reps_fr (Fr.refl zd w) (λ_ x=>x.elim) (λb _ hb=>hb.elim id (λh=>by simp at h)) xs _ hr)
   (λj hj=>by
    have hj':j<vs.size:=by simpa using hj
    simp [yP,Array.getElem?_append,hj',List.getD])
   (by rw [hsz];simp only [yC] at hlen;simp;omega) t v hv
  rw [hsz] at this;exact this
theorem res_of {P C fn y bs' s' a' w' ds} (hy:zeP ds=y) (hres:ResOf P s' fn.results.toList ds) (hR:R C bs' s' a' w') :
  ∃ u,(results fn a'.tmps).run P w' = .ok u w'∧D.rep C.A0 w' y u:=by
 obtain ⟨us,hrun,hreps⟩:=res_runs hR fn.results.toList ds hres;have hl:=D.reps_len hreps;have hm:(fn.results.mapM (zeA a'.tmps)).run P w' = .ok us.toArray w':=by
  rw [← Array.toArray_toList (xs:=fn.results),List.mapM_toArray];simp only [Sem.run_map,hrun,Result.andThen_ok]
 rw [zdz];simp only [Sem.run_bind,hm,Result.andThen_ok,Sem.run_pure];refine ⟨_,rfl,?_⟩
 match ds,us,hreps,hl with
 | [d],[u],hreps,_=>
  simp only [D.reps] at hreps;obtain ⟨_,_,e,h1,_⟩:=hreps;simp only [List.cons.injEq] at e;obtain ⟨rfl,_⟩:=e;simp only [zeP] at hy;subst hy;simpa using h1
 | [],[],hreps,_=>simp only [zeP] at hy;subst hy;simpa [D.rep] using hreps
 | d1::d2::ds,u1::u2::us,hreps,_=>
  simp only [zeP] at hy;subst hy;have hne:¬ (u1::u2::us).toArray.size=1:=by simp
  rw [dif_neg hne];simp only [D.rep];exact ⟨_,rfl,hreps⟩
def zgt (A:Nat→Prop) (w:World) (y:D) (e:Ending) (w':World):Prop:=∃ u,e = .returned u∧Fr zd w w'∧D.rep A w' y u
theorem Pure.of_triM {P f fn c xs y} (hf:P.funcs[f]? = some fn) (hb:fn.body=some c) (hn:xs.length≤fn.ntmps)
  (h:∀ A w,Tri P ⟨A,zd,w,fn.ntmps,λa' w'=>LeavesInM Fence.wide 0 P fn a'.tmps (zgt A w y) a'.defers .returning w',[],0,[]⟩ c (retQ P fn.results y) ⟨params 0 xs,[]⟩):Pure P f xs y:=by
 refine ⟨λA w vs hA hG hr=>?_⟩;have hlen:=D.reps_len hr;have main:CallsIn Fence.wide 0 P f vs w (zgt A w y):=by
  refine callsIn_of_wp_marks hf hb trivial (wpIn_wide.2 (Code.wp_mono ?_ ((h A w).run [] _ w ?_))) rfl
  ·rintro e a' w' (⟨bs',s',⟨he,ds,hy,hres⟩,hR⟩ | ⟨rfl,hE⟩)
   ·obtain ⟨u,hu1,hu2⟩:=res_of (P:=P) (fn:=fn) hy hres hR;have hfr:Fr zd w w':=hR.fr;have hd:a'.defers=[]:=hR.defers;have hL:LeavesInM Fence.wide 0 P fn a'.tmps (zgt A w y) a'.defers .returning w':=by
     rw [hd];exact ⟨u,hu1,u,rfl,hfr,hu2⟩
    rcases he with rfl | rfl <;> exact hL
   ·exact hE
  ·have hsz:(vs++Array.replicate (fn.ntmps - vs.size) undef).size=fn.ntmps:=by
    simp only [yC] at hlen;simp;omega
   refine ⟨⟨by simp,by simp,by simp,hA,hG.fr (Fr.refl zd w) (λ_ x=>x.elim) (λb _ hb=>hb.elim id (λh=>by simp at h))⟩,rfl,by simp,λt v hv=>?_,rfl,hsz,Fr.refl _ _,by simp,λp hp=>(by cases hp)⟩;have:=zer (A:=Own A []) (w:=w) (bs:=[]) (H:=[]) xs 0 vs.toList (vs++Array.replicate (fn.ntmps - vs.size) undef)
    (D.reps_fr (Fr.refl zd w) (λ_ x=>x.elim) (λb _ hb=>hb.elim id (λh=>by simp at h)) xs _ hr)
    (λj hj=>by
     have hj':j<vs.size:=by simpa using hj
     simp [yP,Array.getElem?_append,hj',List.getD])
    (by rw [hsz];simp only [yC] at hlen;simp;omega) t v hv
   rw [hsz] at this;exact this
 exact callsIn_wide.1 main
end
section
variable [Globs] [Drw]
def zfr (k:IntKind) (r:BitVec k.bits):Int:=k.wrap r.toNat
def band (k:IntKind) (x y:Int):Int:=zfr k (BitVec.ofInt k.bits x &&& BitVec.ofInt k.bits y)
def bor (k:IntKind) (x y:Int):Int:=zfr k (BitVec.ofInt k.bits x ||| BitVec.ofInt k.bits y)
def bxor (k:IntKind) (x y:Int):Int:=zfr k (BitVec.ofInt k.bits x ^^^ BitVec.ofInt k.bits y)
def bnot (k:IntKind) (x:Int):Int:=bxor k (if k.signed then -1 else k.max) x
section
variable {P:Program} {o:Oper} {e:Operand→Option V} {H:List Blk}
theorem OpV.band {t u x y k a b} (ho:o.op = .binOp .and t x y u) (hx:e x=some (.d (.val (.int k a)))) (hy:e y=some (.d (.val (.int k b)))):OpV P o e H (.d (.val (.int k (band k a b)))):=
 .bin_int ho hx hy λw=>by simp [binOp,Op.intBits,Go.Proofs.YtbnhmfnagdgcmaaGreatDoor.band,zfr]
theorem OpV.bor {t u x y k a b} (ho:o.op = .binOp .or t x y u) (hx:e x=some (.d (.val (.int k a)))) (hy:e y=some (.d (.val (.int k b)))):OpV P o e H (.d (.val (.int k (bor k a b)))):=
 .bin_int ho hx hy λw=>by simp [binOp,Op.intBits,Go.Proofs.YtbnhmfnagdgcmaaGreatDoor.bor,zfr]
theorem OpV.bnot {t x k a} (ho:o.op = .unOp .xor t x) (hx:e x=some (.d (.val (.int k a)))):OpV P o e H (.d (.val (.int k (bnot k a)))):=
 .of_same λ_ _ w f _ hf=>by
  have h1:=zr.1 (hf x (by simp [ho,Op.operands]) _ hx);exact ⟨.int k (Go.Proofs.YtbnhmfnagdgcmaaGreatDoor.bnot k a),by simp [execOp,ho,h1,Op.unary,Op.intBits,Go.Proofs.YtbnhmfnagdgcmaaGreatDoor.bnot,Go.Proofs.YtbnhmfnagdgcmaaGreatDoor.bxor,zfr],zr.2 rfl⟩
theorem OpV.idxG {t el ty g N x i k j l a v} (ho:o.op = .indexAddr t x i) (hx:e x=some (.d (.val (.pointer (some ⟨g,0,none⟩))))) (hi:e i=some (.d (.val (.int j a)))) (hg:(g,Obj.cells (l.map (Value.int k)).toArray ty (0,0))∈Globs.gs)
  (ht:P.underlying t=some (.array N el)) (hs:(P.info? el).map (·.size)=some 1) (hN:N=l.length) (hv:Go.Proofs.YtbnhmfnagdgcmaaGreatDoor.idx l a=some v):OpV P o e H (.d (.ref (.val (.int k v)))):=
 .of_same λA0 bs w f m hw=>by
  have h1:=zr.1 (hw x (by simp [ho,Op.operands]) _ hx);have h2:=zr.1 (hw i (by simp [ho,Op.operands]) _ hi);obtain ⟨n,rfl,hn,hvn⟩:=idxS hv;obtain ⟨hA,hh⟩:=m.own.glob _ hg;simp only at hA hh;cases hinf:P.info? el with
  | none=>simp [hinf] at hs
  | some inf=>
   have hsz:inf.size=1:=by simpa [hinf] using hs
   refine ⟨.pointer (some ⟨g,n,none⟩),?_,?_⟩
   ·have hlen:(0:Int)≤n∧(n:Int)<N:=by subst hN;omega
    simp only [execOp,ho,h1,h2,Instr.indexAt,asIntOf,Sem.run_bind,Sem.run_pure,Result.andThen_ok,run_underlying ht,Instr.sureAddr];rw [if_pos hlen];simp [sizeOf,typeInfo,hinf,hsz,Addr.add_lit]
   ·simp only [V.rep,D.rep];refine ⟨g,n,.int k v,rfl,hA,(ym.1 hh).1,rfl,λq hq=>?_⟩;have hq0:q=0:=by simp [Value.cells] at hq;omega
    subst hq0;rw [zab hh];simp [Value.cells,hn,hvn]
end
end
section
variable [Globs] [Drw]
theorem R.vecTurn {C bs T H a w i g k el xs ys cur new} (hR:R C bs ⟨T,H⟩ a w) (hi:H[i]? = some (.vec el k xs)) (hb:bs[i]? = some (some g))
  (hheap:w.heap[g]? = some (.cells cur el (0,0))) (hnew:new.size=cur.size) (hl:ys.length=xs.length) (hfl:D.flat (Own C.A0 bs) w k ys (new.toList.take (xs.length*k))) (h0:0<xs.length) :
  R C bs ⟨T,H.set i (.vec el k ys)⟩ a (w.setRow g new):=by
 have hfr:Fr (λc=>some g=some c) w (w.setRow g new):=⟨rfl,rfl,rfl,by simp,λc _ hno=>setRow_other w g c _ (λe=>hno (by rw [e])),λ_=>yn _⟩
 have hset:bs.set i (some g)=bs:=by
  refine ui λq=>?_
  by_cases hij:i=q
  ·subst hij;rw [yt (yb.1 hb).1,hb]
  ·rw [yv hij]
 have hWA:∀ c,some g=some c→Own C.A0 bs c:=λc hc=>.inr (by rw [← hc];exact yu hb)
 have hupd:=R.upd (y:=.vec el k ys) (c:=some g) (c':=some g) hR hi hb (by
  simp only [Compat];refine .inr ⟨hl,trivial,trivial,λv cells' q1 q2 q3=>?_⟩;rcases q1.2 with ⟨h,h0'⟩ | ⟨g',cap',cur',hh',_,hheap',hnc',hcm',hcs',htake'⟩
  ·omega
  obtain rfl:g=g':=by rw [hh'] at q2;simpa [Value.ownBlock] using q2
  rw [hheap] at hheap';cases hheap';refine ⟨new.toList.take (xs.length*k),⟨?_,.inr ⟨g,cap',new,by rw [hh'],yp _,setRow_heap w g cur _ el _ hheap,hnc',hcm',by rw [hnew,hcs'],rfl⟩⟩,D.flat_fr hfr hWA (λc _ hc=>by rw [hset] at hc;exact hc) _ _ hfl⟩;have hn:xs.length*k≤cap'*k:=yZ _ hnc';have e:new.toList.length=cap'*k:=by rw [yC,hnew,hcs']
  rw [yR,e];exact Nat.min_eq_left hn) hfr (.inl rfl) (by simp only [Blk.rep])
 rw [hset] at hupd;exact hupd
theorem V.asSub {A w bs H i n v} (h:V.rep A w bs H (.vec i n) v):V.rep A w bs H (.sub i n 0 n) v:=by
 simp only [V.rep] at h ⊢;split at h
 ·rename_i t k xs he;refine ⟨h.1,λhn=>?_⟩;obtain ⟨cells,h1,h2,h3⟩:=h.2 hn;refine ⟨v,cells,h1,h2,h3,yp _,yn _,?_⟩;rcases h1.2 with ⟨rfl,h0⟩ | ⟨g,cap,cur,rfl,_,_,hnc,_,_,_⟩
  ·exact ⟨none,0,by simp [h0],by omega,λh=>by omega⟩
  ·exact ⟨_,cap,rfl,by omega,λ_=>⟨g,by simp [Value.ownBlock],by simp⟩⟩
 ·trivial
 ·exact h.elim
theorem TriL.asSub {P C ops rest Q T H} (t) {i n} (ht:look t T=some (.vec i n))
  (k:TriL P C ops rest Q ⟨(t,.sub i n 0 n)::T,H⟩):TriL P C ops rest Q ⟨T,H⟩:=⟨λ_ a w hR=>k.run _ a w (hR.know (hR.tmp t _ ht).1 (V.asSub (hR.tmp t _ ht).2))⟩
def zeJ {α:Type} (xs:List α) (lo hi:Nat) (ys:List α):List α:=xs.take lo++(ys.take (hi - lo)++xs.drop (lo+min (hi - lo) ys.length))
omit [Globs] [Drw] in
theorem zc7 {α:Type} {xs:List α} {lo hi:Nat} {ys:List α} (h1:lo≤hi) (h2:hi≤xs.length):(zeJ xs lo hi ys).length=xs.length:=by
 simp [zeJ];omega
theorem D.flat_split {A w k}:∀ {xs:List D} {cells:List Value} (n:Nat),D.flat A w k xs cells→D.flat A w k (xs.take n) (cells.take (n*k))∧D.flat A w k (xs.drop n) (cells.drop (n*k))
 | xs,cells,0,h=>by simp [D.flat];exact h
 | [],cells,n+1,h=>by simp only [D.flat] at h;subst h;simp [D.flat]
 | x::xs,cells,n+1,h=>by
  simp only [D.flat] at h;obtain ⟨u,cs,rfl,hk,hu,hr⟩:=h;obtain ⟨h1,h2⟩:=D.flat_split n hr;have e:(n+1)*k=k+n*k:=by rw [uj,Nat.add_comm]
  have hk':u.cells.toList.length=k:=by simpa using hk
  have t1:(u.cells.toList++cs).take (k+n*k)=u.cells.toList++cs.take (n*k):=by
   rw [List.take_append,hk',List.take_of_length_le (by rw [hk'];omega),Nat.add_sub_cancel_left]
  have t2:(u.cells.toList++cs).drop (k+n*k)=cs.drop (n*k):=by
   rw [List.drop_append,hk',List.drop_eq_nil_of_le (by rw [hk'];omega),Nat.add_sub_cancel_left,yV]
  rw [List.take_succ_cons,List.drop_succ_cons,e,t1,t2];simp only [D.flat];exact ⟨⟨u,_,rfl,hk,hu,h1⟩,h2⟩
theorem run_copyK {P} (w dT sT ty elem k n dp sp dLen dCap sLen sCap) (hu:P.underlying dT=some (.slice elem)) (hsz:(P.info? elem).map (·.size)=some k) (hn:n=Nat.min sLen dLen)
  (g o:Nat) (cur:Array Value) (t:TypeId) (hg:w.heap[g]? = some (.cells cur t (0,0))) (cs:List Value) (hl:cs.length=n*k) (hd:0<n→dp=some ⟨g,o,none⟩) (hs:0<n→∃ ad,sp=some ad∧∀ j v,cs[j]? = some v→w.cell? (ad.add j)=some v)
  (hfit:o+cs.length≤cur.size) (h1:∀ v∈cs,v.oneCell'=true) :
  (Builtin.copy_ #[dT,sT] ty #[.slice dp dLen dCap,.slice sp sLen sCap]).run P w = .ok (goInt n) (if 0<n then w.setRow g (cur.toList.take o++cs++cur.toList.drop (o+cs.length)).toArray else w):=by
 cases hi:P.info? elem with
 | none=>simp [hi] at hsz
 | some inf=>
  have hq:inf.size=k:=by simpa [hi] using hsz
  by_cases h0:0<n
  ·obtain ⟨ad,rfl,hsrc⟩:=hs h0;rw [hd h0];have hfc:=run_firstCells_some (P:=P) w k n ad sLen sCap cs hl hsrc;have hst:=run_storeCells_at P g o t cs 0 cur w hg (by simpa using hfit) h1;simp only [uu] at hst;subst hn;simp [Builtin.copy_,run_underlying hu,Builtin.lenOf,sizeOf,typeInfo,hi,hq,hfc,hst,h0]
  ·have hn0:n=0:=by omega
   subst hn0;have hcs:cs=[]:=yW (by simpa using hl);subst hcs;have:Nat.min sLen dLen=0:=hn.symm;cases dp <;> cases sp <;> simp [Builtin.copy_,run_underlying hu,Builtin.lenOf,Builtin.firstCells,loadCells,loadCellsFrom,sizeOf,typeInfo,hi,hq,this,storeCells]
section
variable {P:Program} {o:Oper} {e:Operand→Option V} {H:List Blk}
theorem OpV.subL {α:Type} {t el el' x y} {i n k:Nat} {l r:List α} {enc:α→D} {lo:Int} (ho:o.op = .slice t x (some y) none none) (hx:e x=some (.vec i n)) (hi:H[i]? = some (.vec el' k (l.map enc))) (hn:n=l.length) (hy:e y=some (.d (.int lo)))
  (ht:P.underlying t=some (.slice el)) (hs:(P.info? el).map (·.size)=some k) (hr:cut l lo (l.length:Int)=some r):OpV P o e H (.sub i n lo.toNat n):=by
 obtain ⟨a,b,rfl,hb,h1,h2,rfl⟩:=cutS hr;have hb':l.length=b:=by omega
 subst hb';refine .of_same λA0 bs w f _ hf=>?_
 have e1:=hf x (by simp [ho,Op.operands]) _ hx;have e2:=zr.1 (hf y (by simp [ho,Op.operands]) _ hy);simp only [V.rep,hi] at e1;obtain ⟨cells,g1,g2,g3⟩:=e1.2 (by simpa using hn);cases hinf:P.info? el with
 | none=>simp [hinf] at hs
 | some inf=>
  have hsz:inf.size=k:=by simpa [hinf] using hs
  have hel:P.elem t=el:=by simp [Program.elem,ht]
  have hck:P.cellsOf el=k:=by simp [Program.cellsOf,hinf,hsz]
  have main:∀ (ad:Option Addr) (cap:Nat),f x = .slice ad n cap→n≤cap→(∀ g,ad=some g→∃ b,(f x).ownBlock=some b∧g=⟨b,0,none⟩)→(0<n→ad.isSome=true)→∃ u,(execOp f o).run P w = .ok (.value u) w∧V.rep (Own A0 bs) w bs H (.sub i n ((a:Int)).toNat n) u:=by
   intro ad cap hp hnc hg hne;refine ⟨sliced ad a n cap k,?_,?_⟩
   ·have:=run_slice_l (P:=P) w t ad n cap (by rw [hel];exact ht) .i64 a (by omega) (by omega);rw [hel,run_sizeOf w hinf,hck] at this;simp only [yq,Result.andThen_ok] at this;simp only [execOp,ho,hp,e2,yT,Option.map_none,Sem.run_bind,run_sliceAt_slice w t _ _ _ _ (by rw [hel];exact ht),this,Result.andThen_ok,Sem.run_pure]
   ·simp only [V.rep,hi,yq];refine ⟨e1.1,λ_=>⟨f x,cells,g1,g2,g3,by omega,yn _,if cap=a then ad else ad.map (·.add (a*k)),cap - a,rfl,by omega,λhlt=>?_⟩⟩;have hso:=hne (by omega);cases ad with
    | none=>simp at hso
    | some g=>
     obtain ⟨b,hb1,rfl⟩:=hg g rfl;exact ⟨b,hb1,by rw [if_neg (by omega)];simp [Addr.add_lit]⟩
  rcases g1.2 with ⟨h,h0⟩ | ⟨g,cap,cur,hh,_,_,hnc,_,_,_⟩
  ·exact main none 0 (by rw [h,h0]) (by omega) (λg h=>(by cases h)) (λh=>by omega)
  ·exact main (some ⟨g,0,none⟩) cap hh hnc (λg' h=>⟨g,by rw [hh];simp [Value.ownBlock],by simpa using h.symm⟩) (λ_=>rfl)
theorem OpV.subH {α:Type} {t el el' x y} {i n k:Nat} {l r:List α} {enc:α→D} {hi':Int} (ho:o.op = .slice t x none (some y) none) (hx:e x=some (.vec i n)) (hi:H[i]? = some (.vec el' k (l.map enc))) (hn:n=l.length) (hy:e y=some (.d (.int hi')))
  (ht:P.underlying t=some (.slice el)) (hs:(P.info? el).map (·.size)=some k) (hr:cut l 0 hi'=some r):OpV P o e H (.sub i n 0 hi'.toNat):=by
 obtain ⟨z,b,hz,rfl,h1,h2,rfl⟩:=cutS hr;refine .of_same λA0 bs w f _ hf=>?_
 have e1:=hf x (by simp [ho,Op.operands]) _ hx;have e2:=zr.1 (hf y (by simp [ho,Op.operands]) _ hy);simp only [V.rep,hi] at e1;obtain ⟨cells,g1,g2,g3⟩:=e1.2 (by simpa using hn);cases hinf:P.info? el with
 | none=>simp [hinf] at hs
 | some inf=>
  have hsz:inf.size=k:=by simpa [hinf] using hs
  have hel:P.elem t=el:=by simp [Program.elem,ht]
  have hck:P.cellsOf el=k:=by simp [Program.cellsOf,hinf,hsz]
  have main:∀ (ad:Option Addr) (cap:Nat),f x = .slice ad n cap→n≤cap→(∀ g,ad=some g→∃ b,(f x).ownBlock=some b∧g=⟨b,0,none⟩)→(0<n→ad.isSome=true)→∃ u,(execOp f o).run P w = .ok (.value u) w∧V.rep (Own A0 bs) w bs H (.sub i n 0 ((b:Int)).toNat) u:=by
   intro ad cap hp hnc hg hne;refine ⟨sliced ad 0 b cap k,?_,?_⟩
   ·have:=run_slice_h (P:=P) w t ad n cap (by rw [hel];exact ht) .i64 b (by omega) (by omega);rw [hel,run_sizeOf w hinf,hck] at this;simp only [yq,Result.andThen_ok] at this;simp only [execOp,ho,hp,e2,yT,Option.map_none,Sem.run_bind,run_sliceAt_slice w t _ _ _ _ (by rw [hel];exact ht),this,Result.andThen_ok,Sem.run_pure]
   ·simp only [V.rep,hi,yq];refine ⟨e1.1,λ_=>⟨f x,cells,g1,g2,g3,yp _,by omega,if cap=0 then ad else ad.map (·.add (0*k)),cap,rfl,by omega,λhlt=>?_⟩⟩;have hso:=hne (by omega);cases ad with
    | none=>simp at hso
    | some g=>
     obtain ⟨b,hb1,rfl⟩:=hg g rfl;exact ⟨b,hb1,by rw [if_neg (by omega)];simp [Addr.add_lit]⟩
  rcases g1.2 with ⟨h,h0⟩ | ⟨g,cap,cur,hh,_,_,hnc,_,_,_⟩
  ·exact main none 0 (by rw [h,h0]) (by omega) (λg h=>(by cases h)) (λh=>by omega)
  ·exact main (some ⟨g,0,none⟩) cap hh hnc (λg' h=>⟨g,by rw [hh];simp [Value.ownBlock],by simpa using h.symm⟩) (λ_=>rfl)
end
theorem flat_append3 {A w k xs ys zs a b c} (h1:D.flat A w k xs a) (h2:D.flat A w k ys b) (h3:D.flat A w k zs c):D.flat A w k (xs++(ys++zs)) (a++(b++c)):=D.flat_append h1 (D.flat_append h2 h3)
theorem take3 {α:Type} {A B C:List α} {n a c:Nat} (hA:A.length=a) (hB:B.length=c) (h:a+c≤n):(A++(B++C)).take n=A++(B++C.take (n - a - c)):=by
 rw [List.take_append,List.take_append,hA,hB,List.take_of_length_le (l:=A) (by omega),List.take_of_length_le (l:=B) (by omega)]
inductive SrcOf (e:Operand→Option V) (H:List Blk) (k:Nat) {α:Type} (enc:α→D) (y:Operand):List α→Prop
 | d {ys:List α}:e y=some (.d (.sl k (ys.map enc)))→SrcOf e H k enc y ys
 | sub {i n lo hi:Nat} {el:TypeId} {l:List α}:e y=some (.sub i n lo hi)→H[i]? = some (.vec el k (l.map enc))→n=l.length→SrcOf e H k enc y ((l.drop lo).take (hi - lo))
theorem SrcOf.reads {C bs T H a w} (hR:R C bs ⟨T,H⟩ a w) {k:Nat} {α:Type} {enc:α→D} {y} {ys:List α} (h:SrcOf (ev T) H k enc y ys) :
  ∃ sp cap cells,a.eval y = .slice sp ys.length cap∧D.flat (Own C.A0 bs) w k (ys.map enc) cells∧(0<ys.length→∃ ad,sp=some ad∧∀ j v,cells[j]? = some v→w.cell? (ad.add j)=some v):=by
 cases h with
 | d hy=>
  have h1:=hR.ev hy;simp only [V.rep,D.rep,yS] at h1;obtain ⟨ad,cap,hp,hcap,hrow⟩:=h1;rcases hrow with hnil | ⟨b,off,rfl,_,_,hrow⟩
  ·have:ys=[]:=by simpa using hnil
   subst this;exact ⟨ad,cap,[],hp,by simp [D.flat],λh=>by simp at h⟩
  ·obtain ⟨cells,h1,h2⟩:=D.row_flat _ _ hrow;exact ⟨_,cap,cells,hp,h1,λ_=>⟨_,rfl,λj v hv=>by rw [Addr.add_lit];exact h2 j v hv⟩⟩
 | sub hy hi hn=>
  rename_i i n lo hh el l;have h1:=hR.ev hy;simp only [V.rep,hi] at h1;obtain ⟨hdr,cells,g1,g2,g3,glo,ghi,ad,cap,hp,hcap,hne⟩:=h1.2 (by simpa using hn);have hlen:((l.drop lo).take (hh - lo)).length=hh - lo:=by rw [yR,ua];omega
  have hsp:=(D.flat_split (hh - lo) (D.flat_split lo g3).2).1;refine ⟨ad,cap,(cells.drop (lo*k)).take ((hh - lo)*k),by rw [hlen];exact hp,by simpa [List.map_take,List.map_drop] using hsp,λh0=>?_⟩;rw [hlen] at h0;obtain ⟨b,hb,rfl⟩:=hne (by omega);refine ⟨_,rfl,λj v hv=>?_⟩;rcases g1.2 with ⟨rfl,_⟩ | ⟨g,cp,cur,rfl,_,_,_,_,_,_⟩
  ·simp [Value.ownBlock] at hb
  ·obtain rfl:g=b:=by simpa [Value.ownBlock] using hb
   rw [uH] at hv;split at hv
   ·rw [List.getElem?_drop] at hv;have:=g1.cells (g:=g) rfl _ _ hv;rw [Addr.add_mid] at this;rw [Addr.add_lit];simpa using this
   ·cases hv
theorem TriL.copySub {P:Program} {C:Ctx} {ops:Array Oper} {o:Oper} {rest:List Oper} {Q:Exit→St→Prop} {T:List (Nat×V)} {H:List Blk} {α:Type} {t t' el:TypeId} {x y:Operand} {i n lo hi k bytes d:Nat} {enc:α→D} {l ys:List α}
  (hg:o.guard=none) (ho:o.op = .call { callee:=.builtin .copy,args:=#[x,y],argTypes:=#[t,t'] }) (hd:o.dst=some d) (hdn:Nat.blt d C.n=true) (he:zbW P t el k bytes=true) (hx:ev T x=some (.sub i n lo hi)) (hi':H[i]? = some (.vec el k (l.map enc))) (hn:n=l.length)
  (hy:SrcOf (ev T) H k enc y ys) (h1:∀ x,(enc x).ones=true)
  (kk:TriL P C ops rest Q ⟨(d,.d (.int (min (hi - lo) ys.length:Nat)))::T,H.set i (.vec el k ((zeJ l lo hi ys).map enc))⟩):TriL P C ops (o::rest) Q ⟨T,H⟩:=by
 obtain ⟨htu,hk0,inf,z,hinf,hz,hisz,hib,hzc⟩:=zco he;refine TriL.step hg (λbs a w hR=>?_) kk;have hxr:=hR.ev hx;simp only [V.rep,hi'] at hxr;obtain ⟨hdr,cells,g1,g2,g3,glo,ghi,ad,cap,hp,hcap,hne⟩:=hxr.2 (by simpa using hn);obtain ⟨sp,scap,scells,hs,hsf,hsr⟩:=hy.reads hR;have hsl:=D.flat_len hsf;simp only [yS] at hsl;obtain ⟨c,hc⟩:∃ c,c=min (hi - lo) ys.length:=⟨_,rfl⟩
 have hc1:c≤hi - lo:=by omega
 have hc2:c≤ys.length:=by omega
 have htk:scells.take (c*k)=scells.take (c*k):=rfl;have hckl:(scells.take (c*k)).length=c*k:=by rw [yR,hsl];exact Nat.min_eq_left (yZ _ hc2)
 have hfl1:=(D.flat_split c hsf).1;have hone:∀ v∈scells.take (c*k),v.oneCell'=true:=D.flat_ones (λq hq=>by
  rw [← List.map_take] at hq;obtain ⟨q',_,rfl⟩:=yU.1 hq;exact h1 q') hfl1
 have hset:bs.set i hdr.ownBlock=bs:=by
  refine ui λq=>?_
  by_cases hij:i=q
  ·subst hij;rw [yt (yb.1 g2).1,g2]
  ·rw [yv hij]
 by_cases h0:0<c
 ·obtain ⟨b,hb,rfl⟩:=hne (by omega);rcases g1.2 with ⟨rfl,_⟩ | ⟨g,cp,cur,rfl,_,hheap,hnc,hcm,hcs,htake⟩
  ·simp [Value.ownBlock] at hb
  obtain rfl:g=b:=by simpa [Value.ownBlock] using hb
  have hnk:n*k≤cp*k:=yZ _ hnc;have hlock:lo*k+c*k≤n*k:=by rw [← Nat.add_mul];exact yZ _ (by omega)
  have hrun:=run_copyK (P:=P) w t t' o.type el k c (some ⟨g,lo*k,none⟩) sp (hi - lo) cap ys.length scap htu (by simp [hinf,hisz]) (by rw [hc];exact Nat.min_comm _ _) g (lo*k) cur el hheap (scells.take (c*k)) hckl (λ_=>rfl) (λ_=>by
   obtain ⟨ad,h2,h3⟩:=hsr (by omega);exact ⟨ad,h2,λj v hv=>h3 j v (by rw [uH] at hv;split at hv;exact hv;cases hv)⟩) (by rw [hckl,hcs];omega) hone
  rw [if_pos h0,hckl] at hrun;obtain ⟨new,hnew⟩:∃ new:Array Value,new=(cur.toList.take (lo*k)++scells.take (c*k)++cur.toList.drop (lo*k+c*k)).toArray:=⟨_,rfl⟩
  rw [← hnew] at hrun;have hex:(execOp a.eval o).run P w = .ok (.value (goInt c)) (w.setRow g new):=by
   simp only [execOp,ho,resolve,invoke,builtin];simp [hp,hs,hrun]
  have hnsz:new.size=cur.size:=by
   rw [hnew];simp only [uF,yG,yR,ua,yC,hckl,hcs];omega
  have hcopy:(zeJ l lo hi ys).map enc=(l.map enc).take lo++((ys.map enc).take c++(l.map enc).drop (lo+c)):=by
   have e1:ys.take (hi - lo)=ys.take c:=by
    by_cases hle:hi - lo≤ys.length
    ·rw [show c=hi - lo by omega]
    ·rw [List.take_of_length_le (by omega),show c=ys.length by omega,List.take_length]
   simp only [zeJ,ul,e1,List.map_take,List.map_drop,← hc]
  have hflat:D.flat (Own C.A0 bs) w k ((zeJ l lo hi ys).map enc) (new.toList.take ((l.map enc).length*k)):=by
   rw [hcopy];have t1:=(D.flat_split lo g3).1;have t3:=(D.flat_split (lo+c) g3).2;have:=flat_append3 t1 hfl1 t3;have e2:new.toList.take ((l.map enc).length*k)=cells.take (lo*k)++(scells.take (c*k)++cells.drop ((lo+c)*k)):=by
    rw [hnew,yS,← hn,← htake];simp only [List.toList_toArray,yB];have l1:(cur.toList.take (lo*k)).length=lo*k:=by rw [yR,yC,hcs];omega
    rw [take3 l1 hckl hlock,List.take_take,Nat.min_eq_left (by omega),List.drop_take,Nat.add_mul,Nat.sub_sub]
   rw [e2];exact this
  have hT:=hR.vecTurn hi' (by rw [g2];rfl) hheap hnsz (by simp [zc7 glo (by omega:hi≤l.length)]) hflat (by simp;omega)
  have hput:=hT.put (Fr.refl _ _) (some d) (by simpa [dstOK] using hdn) (v:=.d (.int (min (hi - lo) ys.length:Nat))) (u:=goInt c) (by simp only [V.rep,D.rep,goInt,hc]);refine ⟨_,_,bs,hex,.inl ⟨_,rfl,?_⟩⟩;rw [hd];exact hput
 ·have hc0:c=0:=by omega
  have hcopy:zeJ l lo hi ys=l:=by
   have e1:ys.take (hi - lo)=[]:=by
    rcases Nat.eq_zero_or_pos (hi - lo) with h | h
    ·rw [h,List.take_zero]
    ·have:ys=[]:=yW (by omega);rw [this,List.take_nil]
   simp only [zeJ,e1,yV,← hc,hc0,uu,uB]
  have hrun:(Builtin.copy_ #[t,t'] o.type #[.slice ad (hi - lo) cap,.slice sp ys.length scap]).run P w = .ok (goInt 0) w:=by
   have hm:Nat.min ys.length (hi - lo)=0:=by rw [Nat.min_comm] at hc;exact hc.symm.trans hc0
   cases ad <;> cases sp <;> simp [Builtin.copy_,run_underlying htu,Builtin.lenOf,Builtin.firstCells,loadCells,loadCellsFrom,sizeOf,typeInfo,hinf,hm,storeCells]
  have hex:(execOp a.eval o).run P w = .ok (.value (goInt 0)) w:=by
   simp only [execOp,ho,resolve,invoke,builtin];simp [hp,hs,hrun]
  have hput:=hR.put (Fr.refl _ _) (some d) (by simpa [dstOK] using hdn) (v:=.d (.int (min (hi - lo) ys.length:Nat))) (u:=goInt 0) (by simp only [V.rep,D.rep,goInt,← hc,hc0];rfl);refine ⟨_,_,bs,hex,.inl ⟨_,rfl,?_⟩⟩;rw [hd,hcopy];have:H.set i (.vec el k (l.map enc))=H:=by
   obtain ⟨q1,q2⟩:=yb.1 hi';rw [← q2,List.set_getElem_self]
  rw [this];exact hput
omit [Globs] [Drw] in
theorem copyTo_lenW {α:Type} (xs:List α) (ys:List α):(zeJ xs 0 xs.length ys).length=xs.length:=zc7 (yp _) (yn _)
theorem zht {α:Type} {xs r:List α} {lo:Int} (h:cut xs lo (xs.length:Int)=some r) (ys:List α):(zeJ xs lo.toNat xs.length ys).length=xs.length:=by
 obtain ⟨a,b,rfl,hb,h1,h2,rfl⟩:=cutS h;exact zc7 (by simp;omega) (yn _)
def shrO (k:IntKind) (a b:Int):Option Int:=if b<0 then none else some (a.fdiv (2 ^ min b.toNat k.bits))
section
variable {P:Program} {o:Oper} {e:Operand→Option V} {H:List Blk}
theorem OpV.shr {t u x y k j a b c} (ho:o.op = .binOp .shr t x y u) (hx:e x=some (.d (.val (.int k a)))) (hy:e y=some (.d (.val (.int j b)))) (hc:shrO k a b=some c):OpV P o e H (.d (.val (.int k c))):=
 .of_same λ_ _ w f _ hf=>by
  have h1:=zr.1 (hf x (by simp [ho,Op.operands]) _ hx);have h2:=zr.1 (hf y (by simp [ho,Op.operands]) _ hy);unfold shrO at hc;split at hc
  ·cases hc
  ·rename_i hb;cases hc;refine ⟨_,?_,zr.2 rfl⟩;simp [execOp,ho,h1,h2,eqGuard_at_int,binOp,Op.shift,hb]
end
theorem Tri.keep {P C c Q s} (H ks) {K} (hK:Looks s.T ks K) (hH:s.H=H) (k:Tri P C c Q ⟨K,H⟩):Tri P C c Q s:=
 Tri.le ⟨hH,hK.sub⟩ k
end
section
variable [Globs] [Drw]
mutual
theorem V.under_mono {m n} (h:m≤n):∀ (x:V),x.under m=true→x.under n=true
 | .d _,_=>rfl
 | .junk,_=>rfl
 | .loc i _,hx | .vec i _,hx | .arr i _ _,hx | .el i _ _ _,hx | .sub i _ _ _,hx | .mp i,hx | .itp i,hx | .que i _,hx | .qel i _ _,hx=>by
  simp only [V.under,uE] at hx ⊢;omega
 | .agg cs,hx | .tup cs,hx=>by simp only [V.under] at hx ⊢;exact V.unders_mono h cs hx
 | .fn _ a b,hx=>by
  simp only [V.under,yc] at hx ⊢;exact ⟨V.unders_mono h a hx.1,V.unders_mono h b hx.2⟩
theorem V.unders_mono {m n} (h:m≤n):∀ (xs:List V),V.unders m xs=true→V.unders n xs=true
 | [],_=>rfl
 | x::xs,hx=>by
  simp only [V.unders,yc] at hx ⊢;exact ⟨V.under_mono h x hx.1,V.unders_mono h xs hx.2⟩
end
def zdY:Nat→List V→List (Nat×V)
 | _,[]=>[]
 | i,x::xs=>(i,x)::zdY (i+1) xs
theorem zgs {A w bs H}:∀ (xs:List V) (i:Nat) (vs:List Value) (tmps:Array Value),V.reps A w bs H xs vs→(∀ j,j<vs.length→tmps.getD (i+j) undef=vs.getD j undef)→i+vs.length≤tmps.size →
  ∀ t v,look t (zdY i xs)=some v→t<tmps.size∧V.rep A w bs H v (tmps.getD t undef)
 | [],_,_,_,_,_,_,t,v,h=>by simp [zdY,look] at h
 | x::xs,i,vs,tmps,hr,hj,hn,t,v,h=>by
  simp only [V.reps] at hr;obtain ⟨u,vs',rfl,h1,h2⟩:=hr;simp only [zdY,zbc] at h;simp only [yJ] at hn;split at h <;> rename_i e
  ·cases h;subst e;have:=hj 0 (by simp);simp only [uu,List.getD_cons_zero] at this;exact ⟨by omega,by rw [this];exact h1⟩
  ·exact zgs xs (i+1) vs' tmps h2 (λj hj'=>by
    have:=hj (j+1) (by simpa using hj');rw [show i+1+j=i+(j+1) by omega,this];simp) (by omega) t v h
def ResV:St→List ResultVar→List V→Prop
 | _,[],vs=>vs=[]
 | s,.tmp t::rs,vs=>∃ v vs',vs=v::vs'∧look t s.T=some v∧ResV s rs vs'
 | _,.cell _ _::_,_=>False
def zfg:List V→V
 | [v]=>v
 | vs=>.tup vs
def retV (rs:List ResultVar) (K:V→List Blk→Prop) (e:Exit) (s:St):Prop:=
 (e = .ret∨e = .normal)∧∃ vs,ResV s rs vs∧K (zfg vs) s.H
theorem resV_runs {P C bs s a w} (hR:R C bs s a w):∀ (rs:List ResultVar) (xs:List V),ResV s rs xs →
  ∃ vs:List Value,(rs.mapM (zeA a.tmps)).run P w = .ok vs w∧V.reps (Own C.A0 bs) w bs s.H xs vs
 | [],xs,h=>by simp only [ResV] at h;subst h;exact ⟨[],by simp,by simp [V.reps]⟩
 | .tmp t::rs,xs,h=>by
  simp only [ResV] at h;obtain ⟨v,xs',rfl,h1,h3⟩:=h;obtain ⟨vs,hr,hv⟩:=resV_runs (P:=P) hR rs xs' h3;refine ⟨a.tmps.getD t undef::vs,?_,?_⟩
  ·simp only [List.mapM_cons,Sem.run_bind,zeA,Sem.run_pure,Result.andThen_ok,hr]
  ·simp only [V.reps];exact ⟨_,_,rfl,(hR.tmp t v h1).2,hv⟩
 | .cell _ _::_,_,h=>by simp only [ResV] at h
theorem V.reps_length {A w bs H}:∀ {xs:List V} {vs:List Value},V.reps A w bs H xs vs→vs.length=xs.length
 | [],vs,h=>by simp only [V.reps] at h;simp [h]
 | x::xs,vs,h=>by
  simp only [V.reps] at h;obtain ⟨v,vs',rfl,_,h2⟩:=h;simp [V.reps_length h2]
theorem resV_fin {P C bs s a w fn xs} (hR:R C bs s a w) (h:ResV s fn.results.toList xs) :
  ∃ u,(results fn a.tmps).run P w = .ok u w∧V.rep (Own C.A0 bs) w bs s.H (zfg xs) u:=by
 obtain ⟨us,hrun,hreps⟩:=resV_runs (P:=P) hR fn.results.toList xs h;have hl:=V.reps_length hreps;have hm:(fn.results.mapM (zeA a.tmps)).run P w = .ok us.toArray w:=by
  rw [← Array.toArray_toList (xs:=fn.results),List.mapM_toArray];simp only [Sem.run_map,hrun,Result.andThen_ok]
 rw [zdz];simp only [Sem.run_bind,hm,Result.andThen_ok,Sem.run_pure];refine ⟨_,rfl,?_⟩
 match xs,us,hreps,hl with
 | [x],[u],hreps,_=>
  simp only [V.reps] at hreps;obtain ⟨_,_,e,h1,_⟩:=hreps;simp only [List.cons.injEq] at e;obtain ⟨rfl,_⟩:=e;simpa [zfg] using h1
 | [],[],hreps,_=>simpa [V.rep,zfg] using hreps
 | d1::d2::ds,u1::u2::us,hreps,_=>
  have hne:¬ (u1::u2::us).toArray.size=1:=by simp
  rw [dif_neg hne];simp only [V.rep,zfg];exact ⟨_,rfl,hreps⟩
structure CallV (P:Program) (o:Oper) (e:Operand→Option V) (f:FuncId) (xs:List V):Prop where
 run:∀ (A:Nat→Prop) (w:World) (bs:List (Option Nat)) (H:List Blk) (g:Operand→Value),(∀ x∈o.op.operands,∀ y,e x=some y→V.rep A w bs H y (g x))→(∀ k,g (.func k) = .func (.func k) #[] #[]) →
  ∃ vs:Array Value,(execOp g o).run P w = .ok (.enter f vs) w∧V.reps A w bs H xs vs.toList
theorem CallV.stat {P o e f args tys xs} (ho:o.op = .call { callee:=.value (.func f),args:=args,argTypes:=tys }) (hc:callable P f=true)
  (ha:evsV e args.toList=some xs):CallV P o e f xs:=by
 refine ⟨λA w bs H g hf hk=>⟨args.map g,?_,?_⟩⟩
 ·simp only [execOp,ho,resolve,hk,Deferred.ofValue,Sem.run_bind,Sem.run_pure,Result.andThen_ok,invoke];simpa using zbt hc (args.map g) w
 ·have:=zgc (A:=A) (w:=w) (bs:=bs) (H:=H) (f:=g) ha (λx hx=>hf x (by simp [ho,Op.operands,Call.operands];right;simpa using hx));simpa using this
theorem CallV.clos {P o e x f args tys xs caps} (ho:o.op = .call { callee:=.value x,args:=args,argTypes:=tys }) (hx:e x=some (.fn (.func f) [] caps)) (hc:callable P f=true)
  (ha:evsV e args.toList=some xs):CallV P o e f (xs++caps):=by
 refine ⟨λA w bs H g hf hk=>?_⟩;have h1:=hf x (by simp [ho,Op.operands,Call.operands]) _ hx;simp only [V.rep] at h1;obtain ⟨vs,us,hv,hr1,hr2⟩:=h1;simp only [V.reps] at hr1;have hvs:vs = #[]:=by simpa using hr1
 subst hvs;refine ⟨args.map g++us,?_,?_⟩
 ·simp only [execOp,ho,resolve,hv,Deferred.ofValue,Sem.run_bind,Sem.run_pure,Result.andThen_ok,invoke];simpa using zbt hc (args.map g++us) w
 ·have:=zgc (A:=A) (w:=w) (bs:=bs) (H:=H) (f:=g) ha (λx hx=>hf x (by simp [ho,Op.operands,Call.operands];right;simpa using hx));have:=V.reps_append this hr2;simpa using this
def vals (a:Act):List (Nat×V)→List (Nat×V)→List (V×Value)
 | _,[]=>[]
 | T,(t,_)::r=>match look t T with | some v=>(v,a.tmps.getD t undef)::vals a T r | none=>vals a T r
theorem zir {a T}:∀ {L:List (Nat×V)} {p:V×Value},p∈vals a T L→∃ t,look t T=some p.1∧p.2=a.tmps.getD t undef
 | [],p,h=>by simp [vals] at h
 | (t,x)::r,p,h=>by
  simp only [vals] at h;split at h <;> rename_i e
  ·rcases yI.1 h with rfl | h
   ·exact ⟨t,e,rfl⟩
   ·exact zir h
  ·exact zir h
theorem zhY {a T t v} (ht:look t T=some v):∀ {L:List (Nat×V)} {x:V},look t L=some x→(v,a.tmps.getD t undef)∈vals a T L
 | [],x,h=>by simp [look] at h
 | (u,y)::r,x,h=>by
  simp only [zbc] at h;simp only [vals];split at h <;> rename_i e
  ·subst e;simp [ht]
  ·have:=zhY (a:=a) ht h;split
   ·exact un _ this
   ·exact this
theorem ziH {T n t v} (h:(T.all λp=>p.2.under n)=true):look t T=some v→v.under n=true:=by
 induction T with
 | nil=>intro h;simp [look] at h
 | cons p L ih=>
  intro h5;obtain ⟨c,x⟩:=p;simp only [um,yc] at h;simp only [zbc] at h5;split at h5
  ·cases h5;exact h.1
  ·exact ih h.2 h5
theorem TriL.inlineG {P C ops o rest Q T H f fn c xs N} {rs:List ResultVar}
  (hg:o.guard=none) (hd:dstOK o.dst C.n=true) (hc:CallV P o (ev T) f xs) (hf:P.funcs[f]? = some fn) (hb:fn.body=some c) (hN:fn.ntmps=N) (hrs:fn.results=rs.toArray) (hn:Nat.ble xs.length N=true)
  (hu:(T.all λp=>p.2.under H.length)=true) (hgn:Nat.ble C.gn H.length=true)
  (h:∀ (own0:Nat→Prop) (w:World) (gh:List (V×Value)),(∀ b,C.own0 b→own0 b)→(∀ p∈C.gh,p∈gh)→Tri P ⟨C.A0,own0,w,N,λ_ _=>False,gh,H.length,[]⟩ c (retV rs λv H'=>TriL P C ops rest Q ⟨putT T o.dst v,H'⟩) ⟨zdY 0 xs,H⟩):TriL P C ops (o::rest) Q ⟨T,H⟩:=by
 subst hN;have hgn:=yi hgn;have hn:=yi hn;refine ⟨λbs a w hR=>wpList_plain hg λK hK=>?_⟩;obtain ⟨vs,hrun,hvs⟩:=hc.run (Own C.A0 bs) w bs H a.eval (λx _ y hx=>hR.ev hx) (λ_=>rfl);unfold Oper.wp;rw [hrun];simp only [Oper.upon];have hlen:=V.reps_length hvs;simp only [yC] at hlen;refine calls_of_wp hf hb ?_;have h0:=h (λb=>C.own0 b∨some b∈bs) w (C.gh++vals a T T) (λb hb=>.inl hb) λp hp=>List.mem_append_left _ hp
 have hR0:R ⟨C.A0,λb=>C.own0 b∨some b∈bs,w,fn.ntmps,λ_ _=>False,C.gh++vals a T T,H.length,[]⟩ bs ⟨zdY 0 xs,H⟩ { tmps:=vs++Array.replicate (fn.ntmps - vs.size) undef,defers:=[] } w:=by
  have hsz:(vs++Array.replicate (fn.ntmps - vs.size) undef).size=fn.ntmps:=by simp;omega
  refine ⟨hR.own,hR.len,hR.blk,λt v hv=>?_,rfl,hsz,Fr.refl _ _,λb hb=>.inl (.inr hb),λp hp=>?_⟩
  ·have:=zgs xs 0 vs.toList (vs++Array.replicate (fn.ntmps - vs.size) undef) hvs
    (λj hj=>by
     have hj':j<vs.size:=by simpa using hj
     simp [yP,Array.getElem?_append,hj',List.getD])
    (by rw [hsz];simp;omega) t v hv
   rw [hsz] at this;exact this
  ·rcases yK.1 hp with hp | hp
   ·exact ⟨V.under_mono hgn _ (hR.gh p hp).1,(hR.gh p hp).2⟩
   ·obtain ⟨t,h1,h2⟩:=zir hp;exact ⟨ziH hu h1,by rw [h2];exact (hR.tmp t _ h1).2⟩
 refine Code.wp_mono ?_ (h0.run bs _ w hR0);rintro e a' w' (⟨bs',s',⟨he,ys,hres,hk⟩,hR'⟩ | ⟨_,hE⟩)
 case inr=>exact hE.elim
 obtain ⟨u,hu1,hu2⟩:=resV_fin (P:=P) (fn:=fn) hR' (by rw [hrs];exact hres);have hsz:=hR'.fr.size;have hRC:R C bs' ⟨T,s'.H⟩ a w':=by
  refine ⟨hR'.own,hR'.len,hR'.blk,λt v hv=>⟨(hR.tmp t v hv).1,(hR'.gh _ (List.mem_append_right _ (zhY hv hv))).2⟩,hR.defers,hR.size,?_,λb hb=>?_,λp hp=>⟨(hR.gh p hp).1,(hR'.gh p (List.mem_append_left _ hp)).2⟩⟩
  ·have f1:=hR'.fr;refine ⟨f1.os.trans hR.fr.os,f1.tape.trans hR.fr.tape,f1.output.trans hR.fr.output,ue hR.fr.size f1.size,λq hq hno=>?_,λd=>ue (hR.fr.drawn d) (f1.drawn d)⟩;refine (f1.block q (yL hq hR.fr.size) λe=>?_).trans (hR.fr.block q hq hno);rcases e with e | e
   ·exact hno e
   ·rcases hR.new q e with e | e
    ·exact hno e
    ·omega
  ·rcases hR'.new b hb with (h1 | h1) | h1
   ·exact .inl h1
   ·exact hR.new b h1
   ·exact .inr (ue hR.fr.size h1)
 have hfin:K (a.put o.dst u) w':=by
  have:=hRC.put (Fr.refl _ _) o.dst hd hu2;rw [St.put_eq] at this;exact hK _ _ (hk.run bs' _ _ this)
 rcases he with rfl | rfl
 ·exact ⟨hR'.defers,u,hu1,hfin⟩
 ·exact ⟨hR'.defers,u,hu1,hfin⟩
theorem TriL.inline {P C ops o rest Q T H f fn c xs N} {rs:List ResultVar}
  (hg:o.guard=none) (hd:dstOK o.dst C.n=true) (hc:CallV P o (ev T) f xs) (hf:P.funcs[f]? = some fn) (hb:fn.body=some c) (hN:fn.ntmps=N) (hrs:fn.results=rs.toArray) (hn:Nat.ble xs.length N=true)
  (hu:(T.all λp=>p.2.under H.length)=true) (hgn:Nat.ble C.gn H.length=true)
  (h:∀ (own0:Nat→Prop) (w:World) (gh:List (V×Value)),Tri P ⟨C.A0,own0,w,N,λ_ _=>False,gh,H.length,[]⟩ c (retV rs λv H'=>TriL P C ops rest Q ⟨putT T o.dst v,H'⟩) ⟨zdY 0 xs,H⟩):TriL P C ops (o::rest) Q ⟨T,H⟩:=
 TriL.inlineG hg hd hc hf hb hN hrs hn hu hgn λown0 w gh _ _=>h own0 w gh
theorem TriL.eqNil {P C ops o rest Q s t u el x k xs}
  (hg:o.guard=none) (hd:dstOK o.dst C.n=true) (ho:o.op = .binOp .eql t x (.const (.slice none 0 0)) u) (htu:P.underlying t=some (.slice el)) (hx:ev s.T x=some (.d (.sl k xs)))
  (kk:∀ b:Bool,(b=true→xs=[])→TriL P C ops rest Q (s.put o.dst (.d (.bool b)))):TriL P C ops (o::rest) Q s:=by
 refine ⟨λbs a w hR=>wpList_plain hg λK hK=>?_⟩;have h1:=hR.ev hx;simp only [V.rep,D.rep] at h1;obtain ⟨p,cap,hv,hcap,hr⟩:=h1;have hrun:∃ b:Bool,(b=true→xs=[])∧(execOp a.eval o).run P w = .ok (.value (.bool b)) w:=by
  refine ⟨p.isNone,λhp=>?_,?_⟩
  ·rcases hr with hr | ⟨b,off,e,_⟩
   ·exact hr
   ·rw [e] at hp;simp at hp
  ·simp only [execOp,ho,hv];simp only [Act.eval];have hguard:(eqGuard BinOp.eql t x (Operand.const (Value.slice none 0 0)) (Value.slice p xs.length cap) (Value.slice none 0 0)).run P w = .ok () w:=by simp [eqGuard]
   simp [hguard,Lib.run_eql_slice_nil w t el p xs.length cap 0 0 htu]
 obtain ⟨b,hb,hrun⟩:=hrun;unfold Oper.wp;rw [hrun];exact hK _ _ ((kk b hb).run bs _ _ (hR.put (Fr.refl _ _) o.dst hd (zr.2 rfl)))
def cloneCode (t:TypeId):Code:=
  (Code.region 0 #[{ dst := some 2, op := Op.assign (Operand.const (Value.slice none 0 0)), type := t, pos := "slices.go:355", after := #[], guard := none }] false).seq
    (((Code.region 1 #[{ dst := some 3, op := Op.move (Operand.tmp 0), type := t, pos := "slices.go:357", after := #[], guard := none },
        { dst := some 4, op := Op.binOp BinOp.eql t (Operand.tmp 3) (Operand.const (Value.slice none 0 0)) t, type := 4, pos := "slices.go:357", after := #[{ on := 0, ground := Ground.data }], guard := none }] false).seq
      (Code.cond (Operand.tmp 4)
        ((Code.region 2 #[{ dst := some 2, op := Op.assign (Operand.const (Value.slice none 0 0)), type := t, pos := "slices.go:358", after := #[], guard := none }] false).seq Code.ret)
        Code.skip)).seq
    ((Code.region 3 #[{ dst := some 5, op := Op.buildSlice t 0 #[], type := t, pos := "slices.go:362", after := #[], guard := none },
        { dst := some 6, op := Op.move (Operand.tmp 0), type := t, pos := "slices.go:362", after := #[], guard := none },
        { dst := some 7, op := Op.call { callee := Callee.builtin Builtin.append, args := #[Operand.tmp 5, Operand.tmp 6], argTypes := #[t, t] }, type := t, pos := "slices.go:362", after := #[{ on := 0, ground := Ground.data }, { on := 1, ground := Ground.data }], guard := none },
        { dst := some 2, op := Op.assign (Operand.tmp 7), type := t, pos := "slices.go:362",
          after:=#[{ on:=2,ground:=Ground.data },{ on:=2,ground:=Ground.chain },{ on:=0,ground:=Ground.phase },{ on:=1,ground:=Ground.phase },{ on:=2,ground:=Ground.phase }],guard:=none }] false).seq
      Code.ret))
theorem TriL.clone {P:Program} {C:Ctx} {ops:Array Oper} {o:Oper} {rest:List Oper} {Q:Exit→St→Prop} {T:List (Nat×V)} {H:List Blk} {f:FuncId} {fn:Func} {x:Operand} {tys:Array TypeId} {α:Type} {t el:TypeId} {k bytes d:Nat} {enc:α→D} {xs zs:List α}
  (hg:o.guard=none) (ho:o.op = .call { callee:=.value (.func f),args:=#[x],argTypes:=tys }) (hd:o.dst=some d) (hdn:Nat.blt d C.n=true) (hcl:callable P f=true) (hf:P.funcs[f]? = some fn) (hbody:fn.body=some (cloneCode t)) (hN:fn.ntmps=8) (hrs:fn.results = #[.tmp 2])
  (hx:ev T x=some (.d (.sl k (xs.map enc)))) (ht:zbW P t el k bytes=true) (hb:Nat.blt 0 bytes=true) (hones:∀ z,(enc z).ones=true) (hk:∀ x,(enc x).kOK k=true) (hv:Go.Proofs.YtbnhmfnagdgcmaaGreatDoor.app bytes [] xs=some zs)
  (hu:(T.all λp=>p.2.under H.length)=true) (hgn:Nat.ble C.gn H.length=true)
  (kk:TriL P C ops rest Q ⟨(d,.vec H.length zs.length)::T,H++[.vec el k (zs.map enc)]⟩):TriL P C ops (o::rest) Q ⟨T,H⟩:=by
 have hz:zs=xs:=by have:=(appS hv).1;simpa using this
 have htu:=(zco ht).1;have hlast:(H++[Blk.vec el k (List.map enc [])])[H.length]? = some (.vec el k (List.map enc [])):=by simp
 have hset:(H++[Blk.vec el k (List.map enc [])]).set H.length (.vec el k (zs.map enc))=H++[.vec el k (zs.map enc)]:=by simp
 refine TriL.inline (rs:=[.tmp 2]) (xs:=[.d (.sl k (xs.map enc))]) hg (by rw [hd];simpa [dstOK] using hdn) (CallV.stat ho hcl (by simp [evsV,hx])) hf hbody hN hrs rfl hu hgn λown0 w gh=>?_
 refine .seq (.region (.op rfl rfl (.assign rfl rfl) (.nil ?_)));refine .seq (.seq (.region (.op rfl rfl (.move rfl rfl) (.eqNil rfl rfl rfl htu rfl λb hxs=>.nil ?_))));refine .cond (t:=b) rfl (λhbt=>?_) (λ_=>.skip ?_)
 ·have hxs:=hxs hbt;have hxs:xs=[]:=by simpa using hxs
  subst hxs;subst hz;refine .seq (.region (.op rfl rfl (.assign rfl rfl) (.nil ?_)));refine .nilVec 2 k el rfl (.ret ⟨.inl rfl,[.vec H.length 0],⟨_,[],rfl,rfl,rfl⟩,?_⟩);rw [hd];exact kk
 ·refine .seq (.region (.buildVec (α:=α) (enc:=enc) [] rfl rfl rfl rfl rfl ht rfl hk (by simp [Nat.ble_eq]) ?_));refine .op rfl rfl (.move rfl rfl) ?_;refine .app rfl rfl rfl rfl rfl hlast rfl rfl ht hb hones hv ?_;refine .op rfl rfl (.assign rfl rfl) (.nil ?_);refine .ret ⟨.inl rfl,[.vec H.length zs.length],⟨_,[],rfl,rfl,rfl⟩,?_⟩;rw [hd];simp only [zfg];rw [show ∀ (s:St),s.H=s.H from λ_=>rfl];simp only [St.put,hset];exact kk
def optD {α:Type} (enc:α→D):Option α→D
 | none=>.val (.pointer none)
 | some x=>.ref (enc x)
theorem optD_of {α:Type} {enc:α→D} {o:Option α} {x:α} (h:o=some x):optD enc o = .ref (enc x):=by rw [h];rfl
theorem D.Le.ofEq {d d'} (h:d=d'):D.Le d d':=h▸.refl _
end
section
variable [Globs] [Drw]
end
section
variable [Globs] [Drw]
structure IsIdxByte (P:Program) (f:FuncId):Prop where
 out : ∃ fn, P.funcs[f]? = some fn ∧ (fn.name == "runtime.NumGoroutine") = false ∧ fn.body.isNone = true ∧ Extern.findNext fn = none ∧ Extern.find fn = some Extern.BytealgIndexByte.indexByte
theorem OpV.idxByte {P o e H f x y tys} {l:List UInt8} {c} (ho:o.op = .call { callee:=.value (.func f),args:=#[x,y],argTypes:=tys }) (hf:IsIdxByte P f)
  (hx:e x=some (.d (.str l))) (hy:e y=some (.d (.val (.int .u8 c)))):OpV P o e H (.d (.int (Lib.indexByte l c.toNat.toUInt8))):=by
 obtain ⟨fn,h1,h2,h3,h4,h5⟩:=hf.out;refine ⟨λA0 bs w g m hg _ hk=>?_⟩;have e1:=zr.1 (hg x (by simp [ho,Op.operands,Call.operands]) _ hx);have e2:=zr.1 (hg y (by simp [ho,Op.operands,Call.operands]) _ hy);have hrun:(execOp g o).run P w = .ok (.value (.int .i64 (Lib.indexByte l c.toNat.toUInt8))) w:=by
  have h:=run_callFunc_extern h1 h2 h3 h4 h5 #[.string ⟨l.toArray⟩,.int .u8 c] w;rw [Lib.run_indexByteString] at h;simp only [execOp,ho,resolve,hk,Deferred.ofValue,Sem.run_bind,Sem.run_pure,Result.andThen_ok,invoke];simpa [e1,e2] using h
 rw [hrun];exact ⟨Fr.refl _ _,zr.2 rfl⟩
end
def tab8:List Int:=[0,0,0,0,0,0,0,0,0,1,1,1,1,1,0,0,0,0,0,0,0,0,0,0,0,0,0,0,0,0,0,0,1,0,0,0,0,0,0,0,0,0,0,0,0,0,0,0,0,0,0,0,0,0,0,0,0,0,0,0,0,0,0,0,0,0,0,0,0,0,0,0,0,0,0,0,0,0,0,0,0,0,0,0,0,0,0,0,0,0,0,0,0,0,0,0,0,0,0,0,0,0,0,0,0,0,0,0,0,0,0,0,0,0,0,0,0,0,0,0,0,0,0,0,0,0,0,0,0,0,0,0,0,0,0,0,0,0,0,0,0,0,0,0,0,0,0,0,0,0,0,0,0,0,0,0,0,0,0,0,0,0,0,0,0,0,0,0,0,0,0,0,0,0,0,0,0,0,0,0,0,0,0,0,0,0,0,0,0,0,0,0,0,0,0,0,0,0,0,0,0,0,0,0,0,0,0,0,0,0,0,0,0,0,0,0,0,0,0,0,0,0,0,0,0,0,0,0,0,0,0,0,0,0,0,0,0,0,0,0,0,0,0,0,0,0,0,0,0,0,0,0,0,0,0,0]
class Env where
 ml:Int
 es:Value
 er:Value
 ies:∃ t u,es = .iface t u
 ier:∃ t u,er = .iface t u
instance dF:Drw:=⟨False⟩
instance globs [Env]:Globs:=⟨[(8,.cells (tab8.map (Value.int .u8)).toArray 288 (0,0)),(0,.cells #[.int .i64 Env.ml] 3 (0,0)),(1,.cells (Lib.pow10Tab.map (Value.int .u64)).toArray 253 (0,0)),(2,.cells #[Env.es] 166 (0,0)),(3,.cells #[Env.er] 166 (0,0))]⟩
theorem gmL [Env]:(0,Obj.cells #[.int .i64 Env.ml] 3 (0,0))∈Globs.gs:=by simp [Globs.gs]
theorem gmP [Env]:(1,Obj.cells (Lib.pow10Tab.map (Value.int .u64)).toArray 253 (0,0))∈Globs.gs:=by simp [Globs.gs]
theorem gmS [Env]:(2,Obj.cells #[Env.es] 166 (0,0))∈Globs.gs:=by simp [Globs.gs]
theorem gmR [Env]:(3,Obj.cells #[Env.er] 166 (0,0))∈Globs.gs:=by simp [Globs.gs]
theorem gm8 [Env]:(8,Obj.cells (tab8.map (Value.int .u8)).toArray 288 (0,0))∈Globs.gs:=uM
theorem tl8:256=tab8.length:=by decide +kernel
section
theorem I.{u} {α:Sort u} {a:α}:a=a:=rfl
theorem Looks.c {T:List (Nat×V)} {k:Nat} {v:V} {ks:List Nat} {K:List (Nat×V)} (h:look k T=some v) (r:Looks T ks K):Looks T (k::ks) ((k,v)::K):=.cons h r
theorem bK {α R:Type} {o:Option α} {k:α→Option R} {r:R} {G:Prop} (h:o.bind k=some r) (f:∀ v,o=some v→k v=some r→G):G:=by
 obtain ⟨v,h1,h2⟩:=bindS h
 exact f v h1 h2
theorem gK {R:Type} {c:Bool} {m:Option R} {r:R} {G:Prop} (h:grd c m=some r) (f:c=true→m=some r→G):G:=f (grdS h).1 (grdS h).2
theorem Pure.ot [Globs] [Drw] {P:Program} {f:FuncId} {fn:Func} {c:Code} {xs:List D} {y:D} {m:Nat} (hf:P.funcs[f]? = some fn) (hb:fn.body=some c) (hm:fn.ntmps=m) (hn:Nat.ble xs.length m=true)
  (h:∀ A w,Tri P ⟨A,zd,w,m,λ_ _=>False,[],0,[]⟩ c (retQ P fn.results y) ⟨params 0 xs,[]⟩):Pure P f xs y:=by
 subst hm
 exact Pure.of_tri hf hb (yi hn) h
theorem Looks.c2 {T:List (Nat×V)} {k0 k1:Nat} {v0 v1:V} {ks:List Nat} {K:List (Nat×V)} (h:(look k0 T,look k1 T)=(some v0,some v1)) (r:Looks T ks K):Looks T (k0::k1::ks) ((k0,v0)::(k1,v1)::K):=by simp only [yx] at h;exact .cons h.1 (.cons h.2 r)
theorem Looks.c4 {T:List (Nat×V)} {k0 k1 k2 k3:Nat} {v0 v1 v2 v3:V} {ks:List Nat} {K:List (Nat×V)} (h:(look k0 T,look k1 T,look k2 T,look k3 T)=(some v0,some v1,some v2,some v3)) (r:Looks T ks K):Looks T (k0::k1::k2::k3::ks) ((k0,v0)::(k1,v1)::(k2,v2)::(k3,v3)::K):=by simp only [yx] at h;exact .cons h.1 (.cons h.2.1 (.cons h.2.2.1 (.cons h.2.2.2 r)))
theorem Looks.c8 {T:List (Nat×V)} {k0 k1 k2 k3 k4 k5 k6 k7:Nat} {v0 v1 v2 v3 v4 v5 v6 v7:V} {ks:List Nat} {K:List (Nat×V)} (h:(look k0 T,look k1 T,look k2 T,look k3 T,look k4 T,look k5 T,look k6 T,look k7 T)=(some v0,some v1,some v2,some v3,some v4,some v5,some v6,some v7)) (r:Looks T ks K):Looks T (k0::k1::k2::k3::k4::k5::k6::k7::ks) ((k0,v0)::(k1,v1)::(k2,v2)::(k3,v3)::(k4,v4)::(k5,v5)::(k6,v6)::(k7,v7)::K):=by simp only [yx] at h;exact .cons h.1 (.cons h.2.1 (.cons h.2.2.1 (.cons h.2.2.2.1 (.cons h.2.2.2.2.1 (.cons h.2.2.2.2.2.1 (.cons h.2.2.2.2.2.2.1 (.cons h.2.2.2.2.2.2.2 r)))))))
theorem Fz1.{u} {α:Sort u} {a b:α} {R:Prop} (h:a=b) (r:R):a=b∧R:=⟨h,r⟩
theorem Fz2 {α0 α1:Type} {a0 b0:α0} {a1 b1:α1} {R:Prop} (h:(a0,a1)=(b0,b1)) (r:R):a0=b0∧a1=b1∧R:=by simp only [yx] at h;exact ⟨h.1,h.2,r⟩
theorem Fz4 {α0 α1 α2 α3:Type} {a0 b0:α0} {a1 b1:α1} {a2 b2:α2} {a3 b3:α3} {R:Prop} (h:(a0,a1,a2,a3)=(b0,b1,b2,b3)) (r:R):a0=b0∧a1=b1∧a2=b2∧a3=b3∧R:=by simp only [yx] at h;exact ⟨h.1,h.2.1,h.2.2.1,h.2.2.2,r⟩
theorem FzE.{u} {α:Sort u} {a:α}:a=a∧True:=⟨rfl,trivial⟩
theorem Fz8 {α0 α1 α2 α3 α4 α5 α6 α7:Type} {a0 b0:α0} {a1 b1:α1} {a2 b2:α2} {a3 b3:α3} {a4 b4:α4} {a5 b5:α5} {a6 b6:α6} {a7 b7:α7} {R:Prop} (h:(a0,a1,a2,a3,a4,a5,a6,a7)=(b0,b1,b2,b3,b4,b5,b6,b7)) (r:R):a0=b0∧a1=b1∧a2=b2∧a3=b3∧a4=b4∧a5=b5∧a6=b6∧a7=b7∧R:=by simp only [yx] at h;exact ⟨h.1,h.2.1,h.2.2.1,h.2.2.2.1,h.2.2.2.2.1,h.2.2.2.2.2.1,h.2.2.2.2.2.2.1,h.2.2.2.2.2.2.2,r⟩
variable [Globs] [Drw]
theorem TriL.p {P:Program} {C:Ctx} {ops:Array Oper} {o:Oper} {rest:List Oper} {Q:Exit→St→Prop} {s:St} {v:V} (h:(o.guard,dstOK o.dst C.n)=(none,true)) (hv:OpV P o (ev s.T) s.H v) (k:TriL P C ops rest Q (s.put o.dst v)):TriL P C ops (o::rest) Q s:=by
 simp only [yx] at h
 exact .op h.1 h.2 hv k
theorem Tri.sr {P:Program} {C:Ctx} {Q:Exit→St→Prop} {s:St} {id:Nat} {l:List Oper} {y:Code} (h:TriL P C l.toArray l (thenQ (Tri P C y Q) Q) s):Tri P C (.seq (.region id l.toArray false) y) Q s:=.seq (.region h)
section
variable {P:Program} {n:Nat} {ops:Array Oper} {H:List Blk} {o:Oper} {rest:List Oper} {al:List Ev} {T:List (Nat×V)} {K:List Ev→List (Nat×V)→Prop}
theorem TriQ.p {d:Nat} {v:V} (h:(o.guard,o.dst,Nat.blt d n,z0 o)=(none,some d,true,false)) (hv:OpV P o (ev T) H v) (k:TriQ P n ops H rest al ((d,v)::T) K):TriQ P n ops H (o::rest) al T K:=by
 simp only [yx] at h
 exact .op h.1 h.2.1 h.2.2.1 h.2.2.2 hv k
theorem TriQ.q {d:Nat} {v:V} {j g:Nat} {want:Bool} (h:(o.guard,(ops[j]?).bind (·.dst),look g T,o.dst,Nat.blt d n,z0 o)=(some (j,want),some g,some (.d (.bool want)),some d,true,false)) (hv:OpV P o (ev T) H v)
  (k:TriQ P n ops H rest al ((d,v)::T) K):TriQ P n ops H (o::rest) al T K:=by
 simp only [yx] at h
 exact .gop h.1 h.2.1 h.2.2.1 h.2.2.2.1 h.2.2.2.2.1 h.2.2.2.2.2 hv k
end
variable {P:Program} {o:Oper} {e:Operand→Option V} {H:List Blk}
theorem OpV.mv {x:Operand} {v:V} (h:(o.op,e x)=(.move x,some v)):OpV P o e H v:=by
 simp only [yx] at h
 exact .move h.1 h.2
theorem OpV.asg {x:Operand} {v:V} (h:(o.op,e x)=(.assign x,some v)):OpV P o e H v:=by
 simp only [yx] at h
 exact .assign h.1 h.2
theorem OpV.nt {t:TypeId} {x:Operand} {b:Bool} (h:(o.op,e x)=(.unOp .not t x,some (.d (.bool b)))):OpV P o e H (.d (.bool !b)):=by
 simp only [yx] at h
 exact .not h.1 h.2
theorem OpV.bx {t:TypeId} {x:Operand} {d:D} (h:(o.op,e x)=(.box t x,some (.d d))):OpV P o e H (.d (.ref d)):=by
 simp only [yx] at h
 exact .box h.1 h.2
theorem OpV.ad {t u:TypeId} {x y:Operand} {a b:Int} (h:(o.op,e x,e y)=(.binOp .add t x y u,some (.d (.int a)),some (.d (.int b)))):OpV P o e H (.d (.int (add64 a b))):=by
 simp only [yx] at h
 exact .add6 h.1 h.2.1 h.2.2
theorem OpV.sb {t u:TypeId} {x y:Operand} {a b:Int} (h:(o.op,e x,e y)=(.binOp .sub t x y u,some (.d (.int a)),some (.d (.int b)))):OpV P o e H (.d (.int (sub64 a b))):=by
 simp only [yx] at h
 exact .sub6 h.1 h.2.1 h.2.2
theorem OpV.ml {t u:TypeId} {x y:Operand} {a b:Int} (h:(o.op,e x,e y)=(.binOp .mul t x y u,some (.d (.int a)),some (.d (.int b)))):OpV P o e H (.d (.int (mul64 a b))):=by
 simp only [yx] at h
 exact .mul6 h.1 h.2.1 h.2.2
theorem OpV.ls {t u:TypeId} {x y:Operand} {k:IntKind} {a b:Int} (h:(o.op,e x,e y)=(.binOp .lss t x y u,some (.d (.val (.int k a))),some (.d (.val (.int k b))))):OpV P o e H (.d (.bool (decide (a<b)))):=by
 simp only [yx] at h
 exact .lss h.1 h.2.1 h.2.2
theorem OpV.le {t u:TypeId} {x y:Operand} {k:IntKind} {a b:Int} (h:(o.op,e x,e y)=(.binOp .leq t x y u,some (.d (.val (.int k a))),some (.d (.val (.int k b))))):OpV P o e H (.d (.bool (decide (a≤b)))):=by
 simp only [yx] at h
 exact .leq h.1 h.2.1 h.2.2
theorem OpV.gt {t u:TypeId} {x y:Operand} {k:IntKind} {a b:Int} (h:(o.op,e x,e y)=(.binOp .gtr t x y u,some (.d (.val (.int k a))),some (.d (.val (.int k b))))):OpV P o e H (.d (.bool (decide (b<a)))):=by
 simp only [yx] at h
 exact .gtr h.1 h.2.1 h.2.2
theorem OpV.ge {t u:TypeId} {x y:Operand} {k:IntKind} {a b:Int} (h:(o.op,e x,e y)=(.binOp .geq t x y u,some (.d (.val (.int k a))),some (.d (.val (.int k b))))):OpV P o e H (.d (.bool (decide (b≤a)))):=by
 simp only [yx] at h
 exact .geq h.1 h.2.1 h.2.2
theorem OpV.eq {t u:TypeId} {x y:Operand} {k:IntKind} {a b:Int} (h:(o.op,e x,e y)=(.binOp .eql t x y u,some (.d (.val (.int k a))),some (.d (.val (.int k b))))):OpV P o e H (.d (.bool (a==b))):=by
 simp only [yx] at h
 exact .eql h.1 h.2.1 h.2.2
theorem OpV.ne {t u:TypeId} {x y:Operand} {k:IntKind} {a b:Int} (h:(o.op,e x,e y)=(.binOp .neq t x y u,some (.d (.val (.int k a))),some (.d (.val (.int k b))))):OpV P o e H (.d (.bool (a != b))):=by
 simp only [yx] at h
 exact .neq h.1 h.2.1 h.2.2
theorem OpV.fa {t:TypeId} {x:Operand} {i:Nat} {a b:D} (h:(o.op,e x)=(.fieldAddr t x i,some (.d (.ref a)))) (hf:Fld P t i a b):OpV P o e H (.d (.ref b)):=by
 simp only [yx] at h
 exact .fieldAddr h.1 h.2 hf
theorem OpV.ld {t:TypeId} {x:Operand} {d:D} {k:Option Nat} (ht:zE P t=some k) (h:(o.op,e x,d.shape)=(.load t x,some (.d (.ref d)),k)):OpV P o e H (.d d):=by
 simp only [yx] at h
 exact .load h.1 h.2.1 ht h.2.2
theorem OpV.ix {α:Type} {t el:TypeId} {x i:Operand} {k:Nat} {l:List α} {enc:α→D} {a:Int} {v:α} (h:(o.op,e x,e i)=(.indexAddr t x i,some (.d (.sl k (l.map enc))),some (.d (.int a))))
  (ht:P.underlying t=some (.slice el)) (hs:(P.info? el).map (·.size)=some k) (hv:Go.Proofs.YtbnhmfnagdgcmaaGreatDoor.idx l a=some v):OpV P o e H (.d (.ref (enc v))):=by
 simp only [yx] at h
 exact .idx h.1 h.2.1 h.2.2 ht hs hv
section
variable {P:Program} {C:Ctx} {ops:Array Oper} {o o':Oper} {rest:List Oper} {Q:Exit→St→Prop} {s:St} {v:V} {x y:Operand} {t u:TypeId} {i:Nat} {a b:D} {k:Option Nat}
theorem TriL.m (h:(o.guard,dstOK o.dst C.n,o.op,ev s.T x)=(none,true,.move x,some v)) (r:TriL P C ops rest Q (s.put o.dst v)):TriL P C ops (o::rest) Q s:=by
 simp only [yx] at h
 exact .op h.1 h.2.1 (.move h.2.2.1 h.2.2.2) r
theorem TriL.z (h:(o.guard,dstOK o.dst C.n,o.op,ev s.T x)=(none,true,.assign x,some v)) (r:TriL P C ops rest Q (s.put o.dst v)):TriL P C ops (o::rest) Q s:=by
 simp only [yx] at h
 exact .op h.1 h.2.1 (.assign h.2.2.1 h.2.2.2) r
theorem TriL.f (h:(o.guard,dstOK o.dst C.n,o.op,ev s.T x)=(none,true,.fieldAddr t x i,some (.d (.ref a)))) (hf:Fld P t i a b) (ht:zE P u=some k)
  (h':(o'.guard,dstOK o'.dst C.n,o'.op,ev (s.put o.dst (.d (.ref b))).T y,b.shape)=(none,true,.load u y,some (.d (.ref b)),k)) (r:TriL P C ops rest Q ((s.put o.dst (.d (.ref b))).put o'.dst (.d b))):TriL P C ops (o::o'::rest) Q s:=by
 simp only [yx] at h h'
 exact .op h.1 h.2.1 (.fieldAddr h.2.2.1 h.2.2.2 hf) (.op h'.1 h'.2.1 (.load h'.2.2.1 h'.2.2.2.1 ht h'.2.2.2.2) r)
end
section
variable {P:Program} {n:Nat} {ops:Array Oper} {H:List Blk} {l:List Oper} {p o o':Oper} {rest:List Oper} {al:List Ev} {T:List (Nat×V)} {K:List Ev→List (Nat×V)→Prop} {x y:Operand} {v:V} {d d' j j' g g' r i:Nat} {w w' bo b2:Bool} {t u:TypeId} {a b:D} {k:Option Nat}
theorem TriQ.m (h:(o.guard,o.dst,Nat.blt d n,o.op,ev T x)=(none,some d,true,.move x,some v)) (r:TriQ P n ops H rest al ((d,v)::T) K):TriQ P n ops H (o::rest) al T K:=by
 simp only [yx] at h
 exact .op h.1 h.2.1 h.2.2.1 (by simp [z0,h.2.2.2.1]) (.move h.2.2.2.1 h.2.2.2.2) r
theorem TriQ.z (h:(o.guard,o.dst,Nat.blt d n,o.op,ev T x)=(none,some d,true,.assign x,some v)) (r:TriQ P n ops H rest al ((d,v)::T) K):TriQ P n ops H (o::rest) al T K:=by
 simp only [yx] at h
 exact .op h.1 h.2.1 h.2.2.1 (by simp [z0,h.2.2.2.1]) (.assign h.2.2.2.1 h.2.2.2.2) r
theorem TriQ.f (h:(o.guard,o.dst,Nat.blt d n,o.op,ev T x)=(none,some d,true,.fieldAddr t x i,some (.d (.ref a)))) (hf:Fld P t i a b) (ht:zE P u=some k)
  (h':(o'.guard,o'.dst,Nat.blt d' n,o'.op,ev ((d,.d (.ref b))::T) y,b.shape)=(none,some d',true,.load u y,some (.d (.ref b)),k)) (r:TriQ P n ops H rest al ((d',.d b)::(d,.d (.ref b))::T) K):TriQ P n ops H (o::o'::rest) al T K:=by
 simp only [yx] at h h'
 exact .op h.1 h.2.1 h.2.2.1 (by simp [z0,h.2.2.2.1]) (.fieldAddr h.2.2.2.1 h.2.2.2.2 hf) (.op h'.1 h'.2.1 h'.2.2.1 (by simp [z0,h'.2.2.2.1]) (.load h'.2.2.2.1 h'.2.2.2.2.1 ht h'.2.2.2.2.2) r)
theorem TriQ.qm (h:(o.guard,(ops[j]?).bind (·.dst),look g T,o.dst,Nat.blt d n,o.op,ev T x)=(some (j,w),some g,some (.d (.bool w)),some d,true,.move x,some v)) (r:TriQ P n ops H rest al ((d,v)::T) K):TriQ P n ops H (o::rest) al T K:=by
 simp only [yx] at h
 exact .gop h.1 h.2.1 h.2.2.1 h.2.2.2.1 h.2.2.2.2.1 (by simp [z0,h.2.2.2.2.2.1]) (.move h.2.2.2.2.2.1 h.2.2.2.2.2.2) r
theorem TriQ.qf (h:(o.guard,(ops[j]?).bind (·.dst),look g T,o.dst,Nat.blt d n,o.op,ev T x)=(some (j,w),some g,some (.d (.bool w)),some d,true,.fieldAddr t x i,some (.d (.ref a)))) (hf:Fld P t i a b) (ht:zE P u=some k)
  (h':(o'.guard,(ops[j']?).bind (·.dst),look g' ((d,.d (.ref b))::T),o'.dst,Nat.blt d' n,o'.op,ev ((d,.d (.ref b))::T) y,b.shape)=(some (j',w'),some g',some (.d (.bool w')),some d',true,.load u y,some (.d (.ref b)),k)) (r:TriQ P n ops H rest al ((d',.d b)::(d,.d (.ref b))::T) K):TriQ P n ops H (o::o'::rest) al T K:=by
 simp only [yx] at h h'
 exact .gop h.1 h.2.1 h.2.2.1 h.2.2.2.1 h.2.2.2.2.1 (by simp [z0,h.2.2.2.2.2.1]) (.fieldAddr h.2.2.2.2.2.1 h.2.2.2.2.2.2 hf) (.gop h'.1 h'.2.1 h'.2.2.1 h'.2.2.2.1 h'.2.2.2.2.1 (by simp [z0,h'.2.2.2.2.2.1]) (.load h'.2.2.2.2.2.1 h'.2.2.2.2.2.2.1 ht h'.2.2.2.2.2.2.2) r)
theorem TriQ.jA (m:Nat) (b2:Bool) (h:(l.drop m,p.op,look g T,zfW ops n g true (l.take m) [],p.guard,p.dst,Nat.blt d n)=(p::rest,.pick (.tmp g) (.tmp r) (.const (.bool false)),some (.d (.bool bo)),true,none,some d,true))
  (h1:bo=true→TriQ P n ops H (l.take m) al ((g,.d (.bool true))::T) (λ_ T'=>look r T'=some (.d (.bool b2))))
  (h2:TriQ P n ops H rest al ((d,.d (.bool (bo&&b2)))::junks (dsts (l.take m)) T) K):TriQ P n ops H l al T K:=by
 simp only [yx] at h
 exact .jAnd m h.1 h.2.1 h.2.2.1 h.2.2.2.1 (.inl h.2.2.2.2.1) (λ_ _ _ q=>by rw [h.2.2.2.2.1] at q;cases q) h.2.2.2.2.2.1 h.2.2.2.2.2.2 h1 h2
theorem TriQ.jO (m:Nat) (b2:Bool) (h:(l.drop m,p.op,look g T,zfW ops n g false (l.take m) [],p.guard,p.dst,Nat.blt d n)=(p::rest,.pick (.tmp g) (.const (.bool true)) (.tmp r),some (.d (.bool bo)),true,none,some d,true))
  (h1:bo=false→TriQ P n ops H (l.take m) al ((g,.d (.bool false))::T) (λ_ T'=>look r T'=some (.d (.bool b2))))
  (h2:TriQ P n ops H rest al ((d,.d (.bool (bo||b2)))::junks (dsts (l.take m)) T) K):TriQ P n ops H l al T K:=by
 simp only [yx] at h
 exact .jOr m h.1 h.2.1 h.2.2.1 h.2.2.2.1 (.inl h.2.2.2.2.1) (λ_ _ _ q=>by rw [h.2.2.2.2.1] at q;cases q) h.2.2.2.2.2.1 h.2.2.2.2.2.2 h1 h2
end
theorem rO {R:Type} {P:Program} {t:Tmp} {e r:R} {enc:R→D} {s:St} (h:some e=some r) (hl:look t s.T=some (.d (enc e))):retQ P #[.tmp t] (enc r) .ret s:=by
 cases h
 exact zaH hl (.d _)
end
section
variable [Globs] [Drw]
def After (s':St) (e:Exit) (s:St):Prop:=e = .normal∧s=s'
theorem Oper.wp_after {P:Program} {C:Ctx} {s':St} {o:Oper} {a:Act} {w:World} {K:Act→World→Prop} {Q:Exit→Act→World→Prop}
  (hK:∀ a w,(∃ bs,R C bs s' a w)→K a w) (h:o.wp P a w (QR C (After s') .normal) (QR C (After s'))):o.wp P a w K Q:=by
 have hn:∀ a w,QR C (After s') .normal a w→K a w:=λa w h=>by
  rcases h with ⟨bs',s1,⟨_,rfl⟩,hR⟩ | ⟨h,_⟩
  ·exact hK a w ⟨bs',hR⟩
  ·cases h
 have hp:∀ c a w,¬ QR C (After s') (.panic c) a w:=λc a w h=>by
  rcases h with ⟨bs',s1,⟨h,_⟩,hR⟩ | ⟨h,_⟩ <;> cases h
 have ho:¬ LetsOut (QR C (After s')):=λ⟨a,w,h⟩=>by
  rcases h with ⟨bs',s1,⟨h,_⟩,hR⟩ | ⟨h,_⟩ <;> cases h
 unfold Oper.wp at *;generalize (execOp a.eval o).run P w=r at *;cases r with
 | ok n w'=>
  cases n <;> simp only [Oper.upon] at h ⊢
  case value u=>exact hn _ _ h
  case skip=>exact hn _ _ h
  case defer d=>exact hn _ _ h
  case enter f args=>
   refine Calls.mono h λe w'' he=>?_
   cases e with
   | returned u=>exact hn _ _ he
   | panicked c=>exact absurd he (hp _ _ _)
   | outgrown=>exact absurd he ho
  case row row args=>exact Rows.mono h λu w'' he=>hn _ _ he
 | halt x w'=>
  cases x <;> simp only [Oper.upon] at h ⊢
  case panic u=>exact absurd h (hp _ _ _)
theorem TriL.one {P:Program} {C:Ctx} {ops:Array Oper} {o:Oper} {s s':St} (h:TriL P C ops [o] (After s') s) {i:Nat} (hi:ops[i]? = some o) {bs:List (Option Nat)} {a:Act} {w:World} (hR:R C bs s a w) {K:Act→World→Prop} {Q:Exit→Act→World→Prop}
  (hK:∀ a w,(∃ bs,R C bs s' a w)→K a w):wpOp P ops Q i K a w:=by
 have h1:=h.run bs a w hR;unfold wpOp;simp only [hi];unfold wpList at h1;split
 ·rename_i hw;rw [if_pos hw] at h1;rcases h1 with h1 | ⟨_,a1,w1,h1⟩
  ·exact .inl (Oper.wp_after hK h1)
  ·rcases h1 with ⟨bs',s1,⟨h,_⟩,hR⟩ | ⟨h,_⟩ <;> cases h
 ·rename_i hw;rw [if_neg hw] at h1;rcases h1 with ⟨bs',s1,⟨_,rfl⟩,hR⟩ | ⟨h,_⟩
  ·exact hK _ _ ⟨bs',hR⟩
  ·cases h
structure TriA (P:Program) (C:Ctx) (ops:Array Oper) (fuel:Nat) (listed:Array Bool) (Q:Exit→St→Prop) (s:St):Prop where
 run:∀ bs a w,R C bs s a w→wpAny P .any ops (QR C Q) fuel listed a w
theorem TriA.done {P C ops listed Q s} (hr:Region.ready .any ops listed=[]) (h:Q .normal s):TriA P C ops 0 listed Q s:=
 ⟨λbs _ _ hR=>⟨hr,.inl ⟨bs,s,h,hR⟩⟩⟩
inductive Nexts (P:Program) (C:Ctx) (ops:Array Oper) (fuel:Nat) (listed:Array Bool) (Q:Exit→St→Prop) (s:St):List Nat→Prop
 | nil:Nexts P C ops fuel listed Q s []
 | cons {i:Nat} {o:Oper} {s':St} {is:List Nat}:ops.toList[i]? = some o→TriL P C ops [o] (After s') s→TriA P C ops fuel (listed.setIfInBounds i true) Q s'→Nexts P C ops fuel listed Q s is→Nexts P C ops fuel listed Q s (i::is)
theorem TriA.step {P C ops fuel listed Q s} (i is) (hr:Region.ready .any ops listed=i::is) (h:Nexts P C ops fuel listed Q s (i::is)):TriA P C ops (fuel+1) listed Q s:=by
 refine ⟨λbs a w hR=>⟨λh0=>(by rw [hr] at h0;cases h0),?_⟩⟩;rw [hr];clear hr;generalize i::is=rs at h
 induction h with
 | nil=>intro j hj;cases hj
 | cons h1 h2 h3 _ ih=>
  intro j hj;rcases yI.1 hj with rfl | hj
  ·exact h2.one (by simpa using h1) hR λa w ⟨bs',hR'⟩=>h3.run bs' a w hR'
  ·exact ih j hj
def isMove (o:Oper):Bool:=match o.guard,o.op with
 | none,.move _=>true
 | _,_=>false
theorem TriA.first {P C ops fuel listed Q s s' o} (i) (hi0:ops.toList[i]? = some o) (hs:Region.noSelect ops=true) (hf:Region.free .any ops listed i=true)
  (hr:(Region.ready .any ops listed).contains i=true) (hm:isMove o=true) (h1:TriL P C ops [o] (After s') s) (h2:TriA P C ops fuel (listed.setIfInBounds i true) (zba Q) s'):TriA P C ops (fuel+1) listed (zba Q) s:=by
 have hi:ops[i]? = some o:=by simpa using hi0
 refine ⟨λbs a w hR=>?_⟩;unfold isMove at hm;split at hm
 ·rename_i x hg ho;have hrun:∀ w',(execOp a.eval o).run P w' = .ok (.value (a.eval x)) w':=λw'=>by simp [execOp,ho]
  have hw:Region.wanted o (yielded ops a.tmps)=true:=by simp [Region.wanted,hg]
  refine wpAny_take (v:=a.eval x) hi hs hf hr (λc a w h=>?_) (.inl ⟨hw,hrun⟩) ?_
  ·rcases h with ⟨_,_,h,_⟩ | ⟨h,_⟩
   ·exact h.elim
   ·cases h
  ·have h3:=h1.one hi hR (Q:=QR C (zba Q)) (K:=λa' w'=>∃ bs,R C bs s' a' w') λ_ _ h=>h
   have h4:=h1.run bs a w hR;unfold wpList at h4;rw [if_pos hw] at h4;rcases h4 with h4 | ⟨_,a1,w1,h4⟩
   ·simp only [Oper.wp,hrun,Oper.upon,wpList] at h4;rcases h4 with ⟨bs',s1,⟨_,rfl⟩,hR'⟩ | ⟨h,_⟩
    ·exact h2.run bs' _ _ hR'
    ·cases h
   ·rcases h4 with ⟨bs',s1,⟨h,_⟩,hR⟩ | ⟨h,_⟩ <;> cases h
 ·cases hm
theorem TriA.to {P C ops fuel listed Q s} (listed') (e:listed=listed') (h:TriA P C ops fuel listed' Q s):TriA P C ops fuel listed Q s:=by subst e;exact h
theorem Tri.drawA {P C Q s id l} (n) (hm:P.follows .mixedOrders=true) (hn:l.size=n) (h:TriA P C l n (Array.replicate n false) (zba Q) s):Tri P C (.region id l true) Q s:=by
 subst hn;refine Tri.mono (Q:=zba Q) ⟨λbs a w hR=>?_⟩ (λe s hq=>by cases e <;> first | exact hq.elim | exact hq);exact wp_region_any hm (h.run bs a _ hR.drew)
end
section
variable [Globs] [Drw]
end
section
variable [Globs] [Drw]
theorem TriA.via {P C ops fuel listed Q s} (f l' s') (h:TriA P C ops f l' Q s') (k:TriA P C ops f l' Q s'→TriA P C ops fuel listed Q s):TriA P C ops fuel listed Q s:=k h
theorem TriA.keepT {P C ops fuel listed Q T K H} (ks) (hK:Looks T ks K) (h:TriA P C ops fuel listed Q ⟨K,H⟩):TriA P C ops fuel listed Q ⟨T,H⟩:=
 ⟨λbs a w hR=>h.run bs a w (hR.weaken hK.sub.look)⟩
section
variable {P:Program} {C:Ctx} {ops:Array Oper} {o:Oper} {rest:List Oper} {Q:Exit→St→Prop} {T:List (Nat×V)} {H:List Blk} {e:Operand→Option V}
variable {κ β:Type} [DecidableEq κ] {ke:κ→Value} {ve:β→D}
end
end
def zeC (n:Nat) (cf:Fin (n+1)→Fin (n+1)→Int):Array (Fin (n+1)):=Go.Sort.pdq (λx y=>decide (cf x y<0)) (Array.ofFn (n:=n+1) id) 0 (n+1) (Go.Lib.bitLen (n+1)) true true
def sortF {α:Type} (cf:α→α→Int):List α→List α
 | []=>[]
 | x::xs=>(zeC xs.length λi j=>cf ((x::xs)[i.val]'(by simp)) ((x::xs)[j.val]'(by simp))).toList.map λi=>(x::xs)[i.val]'(by simp)
def swoB {α:Type} (cf:α→α→Int) (l:List α):Bool:=
 l.all λx=>!decide (cf x x<0)&&l.all λy=>l.all λz=>(!(decide (cf x y<0)&&decide (cf y z<0))||decide (cf x z<0))&&(decide (cf x y<0)||decide (cf y z<0)||!decide (cf x z<0))
def sortO {α:Type} (f:α→α→Option Int) (l:List α):Option (List α):=
 if (l.all λx=>l.all λy=>(f x y).isSome)&&swoB (λx y=>(f x y).getD 0) l&&decide (l.length<4611686018427387904) then some (sortF (λx y=>(f x y).getD 0) l) else none
section
open Go Go.RowKit Go.Sort Go.Shelf
theorem swo_of {α β:Type} {cf:α→α→Int} {l:List α} (h:swoB cf l=true) (g:β→α) (hg:∀ b,g b∈l):SWO (ltOf λx y:β=>cf (g x) (g y)):=by
 unfold swoB at h;rw [yo] at h;have k:∀ x y z:β,¬ cf (g x) (g x)<0∧(cf (g x) (g y)<0→cf (g y) (g z)<0→cf (g x) (g z)<0)∧(¬ cf (g x) (g y)<0→¬ cf (g y) (g z)<0→¬ cf (g x) (g z)<0):=by
  intro x y z;have h1:=h _ (hg x);rw [yc,yo] at h1;have h2:=h1.2 _ (hg y);rw [yo] at h2;have h3:=h2 _ (hg z);have h0:=h1.1;simp only [yw,yF] at h0;simp only [yc,yz,yw,uo,yd,yF] at h3;exact ⟨h0,by omega,by omega⟩
 refine ⟨λx=>?_,λx y z h1 h2=>?_,λx y z h1 h2=>?_⟩
 ·have:=(k x x x).1;simpa only [ltOf,yF] using this
 ·simp only [ltOf,yd] at *;exact (k x y z).2.1 h1 h2
 ·simp only [ltOf,yF] at *;exact (k x y z).2.2 h1 h2
theorem zhF {n} {cf:Fin (n+1)→Fin (n+1)→Int} (hO:SWO (ltOf cf)):(zeC n cf).size=n+1∧(zeC n cf).toList.Perm (List.ofFn (n:=n+1) id)∧(zeC n cf).toList.Pairwise λx y=>ltOf cf y x=false:=by
 obtain ⟨⟨h1,_,h2⟩,h3⟩:=pdq_sorts (ltOf cf) hO (Array.ofFn (n:=n+1) id) 0 (n+1) (Lib.bitLen (n+1)) true true (yp _) (by simp) (Or.inl rfl);have hs:(zeC n cf).size=n+1:=by
  change (pdq (ltOf cf) (Array.ofFn (n:=n+1) id) 0 (n+1) (Lib.bitLen (n+1)) true true).size=n+1;rw [h1];simp
 refine ⟨hs,?_,?_⟩
 ·have e:∀ (arr:Array (Fin (n+1))) (m:Nat),arr.size=m→arr.extract 0 m=arr:=by
   rintro arr m rfl;exact Array.extract_size
  have e1:=e (zeC n cf) (n+1) hs;have e2:=e (Array.ofFn (n:=n+1) id) (n+1) (by simp);change ((zeC n cf).extract 0 (n+1)).toList.Perm _ at h2;rw [e1,e2] at h2;simpa using h2
 ·rw [List.pairwise_iff_getElem];intro i j hi hj hij;have hi':i<(zeC n cf).size:=by simpa using hi
  have hj':j<(zeC n cf).size:=by simpa using hj
  have:=h3 i j (yp _) hij (by omega);change ltOf cf (zeC n cf)[j]! (zeC n cf)[i]! = false at this;rw [getElem!_pos (zeC n cf) j hj',getElem!_pos (zeC n cf) i hi'] at this;simpa using this
theorem map_ofFn_get {α:Type}:∀ (l:List α) (n:Nat) (h:n=l.length),(List.ofFn (n:=n) id).map (λi=>l[i.val]'(by rw [← h];exact i.isLt))=l:=by
 intro l n h;subst h;apply uK
 ·simp
 ·intro i h1 h2;simp
theorem sortF_perm {α:Type} {cf:α→α→Int} {l:List α} (h:swoB cf l=true):(sortF cf l).Perm l:=by
 cases l with
 | nil=>simp [sortF]
 | cons x xs=>
  have hO:SWO (ltOf λi j:Fin (xs.length+1)=>cf ((x::xs)[i.val]'(by simp)) ((x::xs)[j.val]'(by simp))):=swo_of h (λi:Fin (xs.length+1)=>(x::xs)[i.val]'(by simp)) (λi=>yk _);have h2:=(zhF hO).2.1.map λi=>(x::xs)[i.val]'(by simp)
  rw [map_ofFn_get (x::xs) (xs.length+1) (by simp)] at h2;exact h2
theorem sortF_sorted {α:Type} {cf:α→α→Int} {l:List α} (h:swoB cf l=true):(sortF cf l).Pairwise λx y=>¬ cf y x<0:=by
 cases l with
 | nil=>simp [sortF]
 | cons x xs=>
  have hO:SWO (ltOf λi j:Fin (xs.length+1)=>cf ((x::xs)[i.val]'(by simp)) ((x::xs)[j.val]'(by simp))):=swo_of h (λi:Fin (xs.length+1)=>(x::xs)[i.val]'(by simp)) (λi=>yk _);have h2:=(zhF hO).2.2;simp only [sortF,List.pairwise_map];refine h2.imp λ{a b} hab=>?_
  simpa [ltOf] using hab
theorem sortO_some {α:Type} {f:α→α→Option Int} {l r:List α} (h:sortO f l=some r):(∀ x∈l,∀ y∈l,(f x y).isSome=true)∧swoB (λx y=>(f x y).getD 0) l=true∧l.length<4611686018427387904∧r=sortF (λx y=>(f x y).getD 0) l:=by
 unfold sortO at h;split at h
 ·rename_i hc;simp only [yc,yd,yo] at hc;cases h;exact ⟨λx hx y hy=>hc.1.1 x hx y hy,hc.1.2,hc.2,rfl⟩
 ·cases h
theorem sortO_length {α:Type} {f:α→α→Option Int} {l r:List α} (h:sortO f l=some r):r.length=l.length:=by
 obtain ⟨_,h1,_,rfl⟩:=sortO_some h;exact (sortF_perm h1).length_eq
end
section
variable [Globs] [Drw]
def cat (a b:List UInt8):Option (List UInt8):=if a.length+b.length≤9223372036854775807 then some (a++b) else none
theorem catS {a b c:List UInt8} (h:cat a b=some c):c=a++b∧a.length+b.length≤9223372036854775807:=by
 unfold cat at h;split at h
 ·rename_i hl;cases h;exact ⟨rfl,hl⟩
 ·cases h
theorem OpV.cat {P:Program} {o:Oper} {e:Operand→Option V} {H:List Blk} {t u x y} {a b c:List UInt8} (ho:o.op = .binOp .add t x y u) (hx:e x=some (.d (.str a))) (hy:e y=some (.d (.str b))) (hc:Go.Proofs.YtbnhmfnagdgcmaaGreatDoor.cat a b=some c):OpV P o e H (.d (.str c)):=
 .of_same λ_ _ w f _ hf=>by
  have h1:=zr.1 (hf x (by simp [ho,Op.operands]) _ hx);have h2:=zr.1 (hf y (by simp [ho,Op.operands]) _ hy);obtain ⟨rfl,hl⟩:=catS hc;refine ⟨.string ⟨(a++b).toArray⟩,?_,zr.2 rfl⟩;have e1:(⟨a.toArray⟩:ByteArray).size=a.length:=by simp [ByteArray.size]
  have e2:(⟨b.toArray⟩:ByteArray).size=b.length:=by simp [ByteArray.size]
  have e3:(⟨a.toArray⟩:ByteArray)++(⟨b.toArray⟩:ByteArray)=⟨(a++b).toArray⟩:=by
   apply ByteArray.ext;simp
  have e4:¬ (((⟨a.toArray⟩:ByteArray).size+(⟨b.toArray⟩:ByteArray).size:Nat):Int) > IntKind.i64.max:=by
   rw [e1,e2];have:IntKind.max .i64=9223372036854775807:=by decide
   rw [this];omega
  simp only [execOp,ho,h1,h2,eqGuard_at_string,binOp,Op.stringOp,Sem.run_bind,Sem.run_pure,Result.andThen_ok,e4,if_false,e3]
abbrev D.errB (b:Bool):D:=if b=true then .err else .val .nilIface
theorem errB_rep {A w b v} (h:D.rep A w (D.errB b) v):if b=true then ∃ t u,v = .iface t u else v = .nilIface:=by
 cases b with
 | true=>simpa only [D.errB,if_true,D.rep] using h
 | false=>simpa [D.errB,D.rep] using h
theorem OpV.erreql {P:Program} {o:Oper} {e:Operand→Option V} {H:List Blk} {t u x b} (ho:o.op = .binOp .eql t x (.const .nilIface) u) (ht:P.underlying t=some (.interface (P.methodsAt t))) (hx:e x=some (.d (D.errB b))) (hy:e (.const .nilIface)=some (.d (.val .nilIface))):OpV P o e H (.d (.bool (!b))):=
 .of_same λA0 bs w f _ hf=>by
  have h1:=hf x (by simp [ho,Op.operands]) _ hx;have h3:=zr.1 (hf (.const .nilIface) (by simp [ho,Op.operands]) _ hy);simp only [V.rep] at h1;have h2:=errB_rep h1;refine ⟨.bool (!b),?_,zr.2 rfl⟩;cases b with
  | true=>
   simp only [if_true] at h2;obtain ⟨u',v',hv⟩:=h2;have hg:eqGuard .eql t x (.const .nilIface) (.iface u' v') .nilIface=pure ():=rfl;simp only [execOp,ho,hv,h3,hg,run_eql_held_nil w t u' v' ht,Sem.run_bind,Sem.run_pure,Result.andThen_ok];rfl
  | false=>
   simp only [ye,if_false] at h2;simp only [execOp,ho,h2,h3,eqGuard_nil_constR,run_eql_nil_nil w t ht,Sem.run_bind,Sem.run_pure,Result.andThen_ok];rfl
def zg7 (l:List Int):List UInt8:=l.map λn=>UInt8.ofNat n.toNat
theorem bytes_push:∀ (l:List Int) (r:ByteArray),l.foldl (λr n=>r.push (UInt8.ofNat n.toNat)) r=⟨r.data++(zg7 l).toArray⟩
 | [],r=>by simp [zg7]
 | n::l,r=>by
  rw [List.foldl_cons,bytes_push l];apply ByteArray.ext;simp [zg7,ByteArray.push]
theorem u8_row {A:Nat→Prop} {w:World} {b:Nat}:∀ {l:List Int} {off:Nat},D.row A w b 1 (l.map λx=>D.val (.int .u8 x)) off→∀ j v,(l.map (Value.int .u8))[j]? = some v→w.cell? ((⟨b,off,none⟩:Addr).add j)=some v
 | [],_,_,j,v,hv=>by simp at hv
 | x::l,off,h,j,v,hv=>by
  simp only [yM,D.row,D.rep] at h;obtain ⟨⟨u,rfl,hc,-⟩,h2⟩:=h;cases j with
  | zero=>
   simp only [yM,y6,yh] at hv;subst hv;have:=hc 0 (by simp [Value.cells]);simpa [Addr.add,Value.cells] using this
  | succ j=>
   simp only [yM,List.getElem?_cons_succ] at hv;have:=u8_row h2 j v hv;have e:((⟨b,off+1,none⟩:Addr).add j)=((⟨b,off,none⟩:Addr).add (j+1)):=by
    unfold Addr.add;by_cases h0:j=0
    ·subst h0;simp
    ·simp [h0];omega
   rw [← e];exact this
theorem OpV.bytesStr {P:Program} {o:Oper} {e:Operand→Option V} {H:List Blk} {s d x eb} {l:List Int} (ho:o.op = .convert s d x) (hs:P.underlying s=some (.slice eb)) (hd:P.underlying d=some .string) (he:P.underlying eb=some (.int .u8)) (hx:e x=some (.d (.sl 1 (l.map λx=>D.val (.int .u8 x))))):OpV P o e H (.d (.str (zg7 l))):=
 .of_same λA0 bs w f _ hf=>by
  have h1:=hf x (by simp [ho,Op.operands]) _ hx;simp only [V.rep,D.rep,yS] at h1;obtain ⟨a,cap,hv,hcap,hr⟩:=h1;refine ⟨.string ⟨(zg7 l).toArray⟩,?_,zr.2 rfl⟩;have key:(Conv.bytesToString (.slice a l.length cap)).run P w = .ok (.string ⟨(zg7 l).toArray⟩) w:=by
   cases a with
   | none=>
    rcases hr with hr | ⟨b,off,ha,-⟩
    ·have:l=[]:=by simpa using hr
     subst this;rfl
    ·cases ha
   | some a=>
    have hload:(loadCells a l.length).run P w = .ok (l.map (Value.int .u8)).toArray w:=by
     rcases hr with hr | ⟨b,off,ha,-,-,hrow⟩
     ·have:l=[]:=by simpa using hr
      subst this;rfl
     ·cases ha;have:=run_loadCells_list (P:=P) (w:=w) ⟨b,off,none⟩ (l.map (Value.int .u8)) (u8_row hrow);simpa using this
    rw [run_bytesToString w a l.length cap l hload,bytes_push];simp
  simp only [execOp,ho,hv,convert,run_underlying hs,run_underlying hd,run_underlying he,Sem.run_bind,Sem.run_pure,Result.andThen_ok,key]
theorem OpV.makeFuncB1 {P:Program} {o:Oper} {e:Operand→Option V} {H:List Blk} {g x v} (ho:o.op = .makeFunc (.func g) #[x] #[]) (hx:e x=some v):OpV P o e H (.fn (.func g) [v] []):=
 .of_same λA0 bs w f _ hf=>by
  have h1:=hf x (by simp [ho,Op.operands]) _ hx;refine ⟨.func (.func g) #[f x] #[],by simp [execOp,ho,Instr.makeFunc],?_⟩;simp only [V.rep,V.reps];exact ⟨#[f x],#[],rfl,⟨f x,[],rfl,h1,rfl⟩,rfl⟩
theorem CallV.closF {P o e x f args tys xs fs caps} (ho:o.op = .call { callee:=.value x,args:=args,argTypes:=tys }) (hx:e x=some (.fn (.func f) fs caps)) (hc:callable P f=true)
  (ha:evsV e args.toList=some xs):CallV P o e f (fs++xs++caps):=by
 refine ⟨λA w bs H g hf hk=>?_⟩;have h1:=hf x (by simp [ho,Op.operands,Call.operands]) _ hx;simp only [V.rep] at h1;obtain ⟨vs,us,hv,hr1,hr2⟩:=h1;refine ⟨vs++args.map g++us,?_,?_⟩
 ·simp only [execOp,ho,resolve,hv,Deferred.ofValue,Sem.run_bind,Sem.run_pure,Result.andThen_ok,invoke];simpa using zbt hc (vs++args.map g++us) w
 ·have:=zgc (A:=A) (w:=w) (bs:=bs) (H:=H) (f:=g) ha (λx hx=>hf x (by simp [ho,Op.operands,Call.operands];right;simpa using hx));have:=V.reps_append (V.reps_append hr1 this) hr2;simpa using this
end
section
variable [Globs] [Drw]
structure Turns (P:Program) (f:FuncId) (t:TypeId) (cs cs':List D) (xs:List D) (y:D):Prop where
 run:∀ (A:Nat→Prop) (w:World) (b:Nat) (vs us:Array Value) (vr:List Value),(∀ c,A c→c<w.heap.size)→zd1 (λc=>A c∨c=b) w→¬ A b→b<w.heap.size→w.heap[b]? = some (.cells us t (0,0)) →
  D.reps (λc=>A c∨c=b) w cs us.toList→vs.toList = .pointer (some ⟨b,0,none⟩)::vr→D.reps (λc=>A c∨c=b) w xs vr →
  Calls P f vs w (λe w'=>∃ u us',e = .returned u∧Fr (λc=>c=b) w w'∧w'.heap[b]? = some (.cells us' t (0,0))∧D.reps (λc=>A c∨c=b) w' cs' us'.toList∧D.rep (λc=>A c∨c=b) w' y u)
abbrev turnQ (tt:Tmp) (t:TypeId) (cs':List D) (y:D):Exit→St→Prop:=λe s=>e = .ret∧look tt s.T=some (.d y)∧s.H[0]? = some (.box t (cs'.map V.d))
theorem Turns.of_tri {P:Program} {f:FuncId} {fn:Func} {c:Code} {t cs cs' xs y} {tt:Tmp} (hf:P.funcs[f]? = some fn) (hb:fn.body=some c) (hrs:fn.results = #[.tmp tt]) (hn:xs.length+1≤fn.ntmps)
  (h:∀ (A:Nat→Prop) (b:Nat) (w:World),Tri P ⟨A,λc=>c=b,w,fn.ntmps,λ_ _=>False,[(.loc 0 0,.pointer (some ⟨b,0,none⟩))],1,[]⟩ c (turnQ tt t cs' y) ⟨(0,.loc 0 0)::params 1 xs,[.box t (cs.map V.d)]⟩):Turns P f t cs cs' xs y:=by
 refine ⟨λA w b vs us vr hA hG hAb hbw hh hcs hvs hr=>?_⟩;have hlen:=D.reps_len hr;have hvl:vs.size=xs.length+1:=by
  have:=congrArg List.length hvs;simp at this;omega
 have hown:∀ c,Own A [some b] c↔(A c∨c=b):=λc=>by simp [Own]
 have hsz:(vs++Array.replicate (fn.ntmps - vs.size) undef).size=fn.ntmps:=by simp;omega
 have hconv:∀ {w':World} {d u},D.rep (λc=>A c∨c=b) w' d u→D.rep (Own A [some b]) w' d u:=λ{w' d u} h=>D.rep_fr (Fr.refl zd w') (λ_ x=>x.elim) (λc _ hc=>(hown c).1 hc) _ _ h
 have hconvs:∀ {w':World} {d u},D.reps (λc=>A c∨c=b) w' d u→D.reps (Own A [some b]) w' d u:=λ{w' d u} h=>D.reps_fr (Fr.refl zd w') (λ_ x=>x.elim) (λc _ hc=>(hown c).1 hc) _ _ h
 have hR:R ⟨A,λc=>c=b,w,fn.ntmps,λ_ _=>False,[(.loc 0 0,.pointer (some ⟨b,0,none⟩))],1,[]⟩ [some b] ⟨(0,.loc 0 0)::params 1 xs,[.box t (cs.map V.d)]⟩ { tmps:=vs++Array.replicate (fn.ntmps - vs.size) undef,defers:=[] } w:=by
  refine ⟨⟨λi j q hi hj=>?_,λq hq=>?_,λq hq=>?_,hA,hG.fr (Fr.refl zd w) (λ_ x=>x.elim) (λc _ hc=>(hown c).1 hc)⟩,rfl,λi k hk=>?_,λu v hv=>?_,rfl,hsz,Fr.refl _ _,λq hq=>?_,λp hp=>?_⟩
  ·have hi0:=(yb.1 hi).1;have hj0:=(yb.1 hj).1;simp at hi0 hj0;omega
  ·obtain rfl:q=b:=by simpa using hq
   exact hAb
  ·obtain rfl:q=b:=by simpa using hq
   exact hbw
  ·have hi0:i<1:=(yb.1 hk).1;obtain rfl:i=0:=by omega
   simp only [y6,yh] at hk;subst hk;simp only [Blk.rep];exact ⟨b,us,rfl,hh,V.reps_d.2 (hconvs hcs)⟩
  ·simp only [zbc] at hv;split at hv
   ·rename_i e;cases hv;subst e;refine ⟨by show 0<fn.ntmps;omega,?_⟩;simp only [V.rep,y6];refine ⟨b,rfl,?_⟩;have h0:vs[0]? = some (.pointer (some ⟨b,0,none⟩)):=by rw [← yY,hvs];rfl
    have h1:(vs++Array.replicate (fn.ntmps - vs.size) undef)[0]? = some (.pointer (some ⟨b,0,none⟩)):=by rw [Array.getElem?_append_left (by omega)];exact h0
    simp [yP,h1]
   ·have:=zer (A:=Own A [some b]) (w:=w) (bs:=[some b]) (H:=[.box t (cs.map V.d)]) xs 1 vr (vs++Array.replicate (fn.ntmps - vs.size) undef) (hconvs hr)
     (λj hj=>by
      have e1:vs[1+j]? = vr[j]?:=by rw [← yY,hvs,Nat.add_comm];rfl
      have hjv:1+j<vs.size:=by omega
      have e2:(vs++Array.replicate (fn.ntmps - vs.size) undef)[1+j]? = vr[j]?:=by rw [Array.getElem?_append_left hjv,e1]
      simp [yP,e2,List.getD])
     (by rw [hsz];omega) u v hv
    rw [hsz] at this;exact this
  ·obtain rfl:q=b:=by simpa using hq
   exact .inl rfl
  ·obtain rfl:p=(.loc 0 0,.pointer (some ⟨b,0,none⟩)):=by simpa using hp
   refine ⟨rfl,?_⟩;simp only [V.rep,y6];exact ⟨b,rfl,rfl⟩
 refine calls_of_wp hf hb (Code.wp_mono ?_ ((h A b w).run [some b] _ w hR));rintro e a' w' (⟨bs',s',⟨rfl,ht,hH⟩,hR'⟩ | ⟨_,hE⟩)
 case inr=>exact hE.elim
 have hg:=(hR'.gh _ (uM)).2;simp only [V.rep,hH] at hg;obtain ⟨b1,hb1,e1⟩:=hg;obtain rfl:b=b1:=by simpa using e1
 have hblk:=hR'.blk 0 _ hH;simp only [Blk.rep] at hblk;obtain ⟨b2,us',hb2,hh2,hr2⟩:=hblk;obtain rfl:b=b2:=by rw [hb1] at hb2;simpa using hb2
 have hin:∀ c,c<w'.heap.size→(A c∨c=b)→Own A bs' c:=λc _ hc=>hc.elim .inl λe=>.inr (by rw [e];exact yu hb1)
 have hu:=(hR'.tmp tt _ ht).2;simp only [V.rep] at hu;refine ⟨hR'.defers,a'.tmps.getD tt undef,?_,_,us',rfl,hR'.fr,hh2,D.reps_fr (Fr.refl zd w') (λ_ x=>x.elim) hin _ _ (V.reps_d.1 hr2),D.rep_fr (Fr.refl zd w') (λ_ x=>x.elim) hin _ _ hu⟩;rw [zdz,hrs];simp [zeA]
theorem TriL.turn {P:Program} {C:Ctx} {ops:Array Oper} {o:Oper} {rest:List Oper} {Q:Exit→St→Prop} {T:List (Nat×V)} {H:List Blk} {f t cs cs' xs y d bi zs} (hp:Turns P f t cs cs' xs y) (hg:o.guard=none) (hd:o.dst=some d) (hdn:Nat.blt d C.n=true)
  (hc:CallV P o (ev T) f zs) (hz:zs = .loc bi 0::xs.map V.d) (hH:H[bi]? = some (.box t (cs.map V.d)))
  (kk:TriL P C ops rest Q ⟨(d,.d y)::T,H.set bi (.box t (cs'.map V.d))⟩):TriL P C ops (o::rest) Q ⟨T,H⟩:=by
 subst hz;refine ⟨λbs a w hR=>wpList_plain hg λK hK=>?_⟩;obtain ⟨vs,hrun,hvs⟩:=hc.run (Own C.A0 bs) w bs H a.eval (λx _ y hx=>hR.ev hx) (λ_=>rfl);simp only [V.reps] at hvs;obtain ⟨v0,vr,hvs0,hv0,hvr⟩:=hvs;simp only [V.rep,hH] at hv0;obtain ⟨b,hb,rfl⟩:=hv0;have hblk:=hR.blk bi _ hH;simp only [Blk.rep] at hblk;obtain ⟨b2,us,hb2,hh,hcs⟩:=hblk;obtain rfl:b=b2:=by rw [hb] at hb2;simpa using hb2
 have hbm:some b∈bs:=yu hb;have hiff:∀ c,((Own C.A0 bs c∧c≠b)∨c=b)↔Own C.A0 bs c:=λc=>by
  by_cases e:c=b
  ·subst e;simp [Own,hbm]
  ·simp [e]
 have hfun:(λc=>(Own C.A0 bs c∧c≠b)∨c=b)=Own C.A0 bs:=funext λc=>propext (hiff c)
 have hcall:=hp.run (λc=>Own C.A0 bs c∧c≠b) w b vs us vr (λc hc=>hc.1.elim (hR.own.foreign c) (hR.own.lt c)) (by rw [hfun];exact hR.own.glob) (λh=>h.2 rfl) (hR.own.lt b hbm) hh (by rw [hfun];exact V.reps_d.1 hcs) hvs0 (by rw [hfun];exact V.reps_d.1 hvr);rw [hfun] at hcall;refine Oper.wp_of_runs (K:=λu w'=>∃ us',Fr (λc=>c=b) w w'∧w'.heap[b]? = some (.cells us' t (0,0))∧D.reps (Own C.A0 bs) w' cs' us'.toList∧D.rep (Own C.A0 bs) w' y u) ?_ λu w' ⟨us',hf,hh',hcs',hu⟩=>?_
 ·rw [hrun];refine hcall.mono ?_;rintro e w' ⟨u,us',he,h1,h2,h3,h4⟩;exact ⟨u,he,us',h1,h2,h3,h4⟩
 ·have hset:bs.set bi (some b)=bs:=by
   refine ui λj=>?_
   by_cases hij:bi=j
   ·subst hij;rw [yt (yb.1 hb).1,hb]
   ·rw [yv hij]
  have hfr:Fr (λc=>some b=some c) w w':=hf.mono λc _ hc=>by rw [hc]
  have hupd:=R.upd (y:=.box t (cs'.map V.d)) (c':=some b) hR hH hb (by simp [Compat]) hfr (.inl rfl) (by
   simp only [Blk.rep];refine ⟨b,us',by rw [yt (yb.1 hb).1],hh',?_⟩;rw [hset];exact V.reps_d.2 hcs')
  rw [hset] at hupd;have hput:=hupd.put (Fr.refl _ _) (some d) (by simpa [dstOK] using hdn) (v:=.d y) (u:=u) (by simpa only [V.rep] using hu);rw [← hd] at hput;refine hK _ _ (kk.run bs _ _ ?_);rw [hd] at hput ⊢;exact hput
end
section
def strT (P:Program) (t:TypeId):Bool:=match P.underlying t with | some .string=>true | _=>false
def pureOp (P:Program) (o:Oper):Bool:=match o.dst,o.op with
 | some _,.move _=>true
 | some _,.pick _ _ _=>true
 | some _,.binOp .eql t _ _ _=>strT P t
 | _,_=>false
theorem equalBad {P:Program} {t:TypeId} (ht:P.underlying t=some .string) {a b:Value} (h:∀ p q,a = .string p→b = .string q→False):∀ (d:Nat) (w:World) (v:Bool) (w2:World),(Op.equalIn d t a b).run P w≠.ok v w2
 | 0,w,v,w2=>by unfold Op.equalIn;simp [unsupported]
 | d+1,w,v,w2=>by
  unfold Op.equalIn;rw [Sem.run_bind,run_underlying ht];simp only [Result.andThen_ok];split <;> first
   | contradiction
   | exact (h _ _ rfl rfl).elim
   | (intro hh;simp [stuck] at hh)
theorem binBad {P:Program} {t:TypeId} (ht:P.underlying t=some .string) {a b:Value} (h1:∀ k n k' n',a = .int k n→b = .int k' n'→False) (h2:∀ k n k' n',a = .float k n→b = .float k' n'→False) (h3:∀ k n m k' n' m',a = .complex k n m→b = .complex k' n' m'→False)
  (h4:∀ p q,a = .string p→b = .string q→False) (w:World) (v:Value) (w2:World):(binOp .eql t a b).run P w≠.ok v w2:=by
 unfold binOp;split <;> first
  | contradiction
  | exact (h1 _ _ _ _ rfl rfl).elim
  | exact (h2 _ _ _ _ rfl rfl).elim
  | exact (h3 _ _ _ _ _ _ rfl rfl).elim
  | exact (h4 _ _ rfl rfl).elim
  | skip
 rw [Sem.run_bind];intro hh;generalize he:(Op.equal t _ _).run P w=r at hh;cases r with
 | ok v1 w1=>exact equalBad ht h4 _ _ _ _ he
 | _=>simp [Result.andThen] at hh
theorem pureOp_run {P o} (h:pureOp P o=true) {f w} {K:Value→World→Prop} (hr:zfO P K ((execOp f o).run P w)):∃ u,K u w∧∀ w',(execOp f o).run P w' = .ok (.value u) w':=by
 unfold pureOp at h;split at h
 ·rename_i x _ ho;have:∀ w',(execOp f o).run P w' = .ok (.value (f x)) w':=λw'=>by simp [execOp,ho]
  rw [this] at hr;exact ⟨_,hr,this⟩
 ·rename_i c x y _ ho;cases hc:f c with
  | bool b=>
   have:∀ w',(execOp f o).run P w' = .ok (.value (if b then f x else f y)) w':=λw'=>by simp [execOp,ho,hc,asBool]
   rw [this] at hr;exact ⟨_,hr,this⟩
  | _=>exfalso;revert hr;simp [execOp,ho,hc,asBool,stuck,zfO,Result.andThen]
 ·rename_i t x y u _ ho;have ht:P.underlying t=some .string:=by
   unfold strT at h;split at h
   ·assumption
   ·cases h
  have good:∀ u,(∀ w',(execOp f o).run P w' = .ok (.value u) w')→∃ u,K u w∧∀ w',(execOp f o).run P w' = .ok (.value u) w':=λu h=>⟨u,by rw [h] at hr;exact hr,h⟩
  have key:∀ (a b:Value),f x=a→f y=b→∃ u,K u w∧∀ w',(execOp f o).run P w' = .ok (.value u) w':=by
   intro a b ha hb;have bad:(∀ w1 v w2,(binOp .eql t a b).run P w1≠.ok v w2)→False:=by
    intro hbad;revert hr;simp only [execOp,ho,ha,hb,Sem.run_bind];cases h3:(eqGuard .eql t x y a b).run P w with
    | ok v1 w1=>
     simp only [Result.andThen_ok];cases h4:(binOp .eql t a b).run P w1 with
     | ok v w2=>exact (hbad _ _ _ h4).elim
     | _=>simp [Result.andThen,zfO]
    | _=>simp [Result.andThen,zfO]
   by_cases e4:∃ p q,a = .string p∧b = .string q
   ·obtain ⟨p,q,rfl,rfl⟩:=e4;exact good (.bool (p.toList==q.toList)) λw'=>by simp [execOp,ho,ha,hb,eqGuard,binOp,Op.stringOp]
   by_cases e1:∃ k n k' n',a = .int k n∧b = .int k' n'
   ·obtain ⟨k,n,k',n',rfl,rfl⟩:=e1;by_cases hk:k=k'
    ·exact good (.bool (n==n')) λw'=>by simp [execOp,ho,ha,hb,eqGuard,binOp,Op.intCmp,hk]
    ·exact (bad λw1 v w2=>by simp [binOp,hk,stuck]).elim
   by_cases e2:∃ k n k' n',a = .float k n∧b = .float k' n'
   ·obtain ⟨k,n,k',n',rfl,rfl⟩:=e2;by_cases hk:k=k'
    ·exact good (.bool (k.format.order n n'==some .eq)) λw'=>by simp [execOp,ho,ha,hb,eqGuard,binOp,Op.floatCmp,hk]
    ·exact (bad λw1 v w2=>by simp [binOp,hk,stuck]).elim
   by_cases e3:∃ k n m k' n' m',a = .complex k n m∧b = .complex k' n' m'
   ·obtain ⟨k,n,m,k',n',m',rfl,rfl⟩:=e3;by_cases hk:k=k'
    ·exact good (.bool ((k.format.order n n'==some .eq)&&(k.format.order m m'==some .eq))) λw'=>by simp [execOp,ho,ha,hb,eqGuard,binOp,Op.complexOp,Op.Complex.cmp,Op.floatCmp,hk,asBool]
    ·exact (bad λw1 v w2=>by simp [binOp,hk,stuck]).elim
   exact (bad (binBad ht (λk n k' n' h h'=>e1 ⟨_,_,_,_,h,h'⟩) (λk n k' n' h h'=>e2 ⟨_,_,_,_,h,h'⟩) (λk n m k' n' m' h h'=>e3 ⟨_,_,_,_,_,_,h,h'⟩) (λp q h h'=>e4 ⟨_,_,h,h'⟩))).elim
  exact key _ _ rfl rfl
 ·cases h
variable [Globs] [Drw]
def pendOK (P:Program) (l:List Oper) (n:Nat):List Nat→Bool
 | []=>true
 | i::F=>(match l[i]? with
  | none=>false
  | some oi=>pureOp P oi&&decide (i<n)&&!F.contains i&&oi.after.toList.all (λe=>!Region.binds .any e||!(i::F).contains e.on) &&
   (List.range l.length).all (λj=>j==i||(decide (j<n)&&!F.contains j)||(match l[j]? with
    | none=>false
    | some oj=>oj.after.toList.any (λe=>Region.binds .any e&&e.on==i)||oi.apart l.toArray oj)))&&pendOK P l n F
structure Pend (P:Program) (l:List Oper) (n:Nat) (i:Nat) (oi:Oper) (F:List Nat):Prop where
 at_:l[i]? = some oi
 pure_:pureOp P oi=true
 lt:i<n
 new:i∉F
 after:∀ e∈oi.after.toList,Region.binds .any e=true→e.on∉i::F
 apart:∀ j oj,l[j]? = some oj→j≠i→(j<n→j∈F)→(∀ e∈oj.after.toList,Region.binds .any e=true→e.on≠i)→oi.apart l.toArray oj=true
theorem pendOK_cons {P l n i F} (h:pendOK P l n (i::F)=true):(∃ oi,Pend P l n i oi F)∧pendOK P l n F=true:=by
 simp only [pendOK,yc] at h;refine ⟨?_,h.2⟩;have h:=h.1;cases ho:l[i]? with
 | none=>simp [ho] at h
 | some oi=>
  simp only [ho,yc,yd,yw,yo] at h;obtain ⟨⟨⟨⟨h1,h2⟩,h3⟩,h4⟩,h5⟩:=h;refine ⟨oi,ho,h1,h2,by simpa using h3,λe he hb hm=>?_,λj oj hj hji hjd hw=>?_⟩
  ·have:=h4 e he;rw [hb] at this;simp only [uf,ut,yw] at this;rw [List.contains_iff_mem.2 hm] at this;cases this
  ·have:=h5 j (yX.2 (yb.1 hj).1);simp only [hj,yz,beq_iff_eq,uv,yc,yd,yw] at this;rcases this with (h | ⟨h7,h8⟩) | ⟨e,he,h7,h8⟩ | h
   ·exact absurd h hji
   ·have:=List.contains_iff_mem.2 (hjd h7);rw [this] at h8;cases h8
   ·exact absurd h8 (hw e he h7)
   ·exact h
theorem count_set {listed:Array Bool} {i:Nat} (hil:listed.getD i false=false) (hs:i<listed.size):∀ n,i<n→((List.range n).filter λk=>!(listed.setIfInBounds i true).getD k false).length+1=((List.range n).filter λk=>!listed.getD k false).length:=by
 intro n
 induction n with
 | zero=>intro h;omega
 | succ n ihn=>
  intro hin;simp only [uJ,List.filter_append,yG];by_cases hn:i=n
  ·subst hn;have e1:(List.range i).filter (λk=>!(listed.setIfInBounds i true).getD k false)=(List.range i).filter (λk=>!listed.getD k false):=by
    refine List.filter_congr λk hk=>?_
    rw [zZ _ _ _ _ (by omega),if_neg (by have:=yX.1 hk;omega)]
   rw [e1];have e3:(listed.setIfInBounds i true).getD i false=true:=by rw [zZ _ _ _ _ (by omega),if_pos rfl]
   simp only [List.filter_cons,List.filter_nil,e3,hil];simp
  ·have:=ihn (by omega);have e2:(listed.setIfInBounds i true).getD n false=listed.getD n false:=by rw [zZ _ _ _ _ (by omega),if_neg (by omega)]
   simp only [List.filter_cons,List.filter_nil,e2];omega
theorem wpAny_pend {P C bs H T0 Q ps M L0 l n} (hQ:∀ c s,¬ Q (.panic c) s) (hsel:l.all (λo=>!zgR o)=true)
  (hfst:∀ (i:Nat) (o:Oper) (v:V),ps[i]? = some (o,v)→l[i]? = some o) (hpn:ps.length=n) (hnl:n≤l.length) (ok:RegOK l n M L0) (hy:∀ (i:Nat) (o:Oper) (v:V),ps[i]? = some (o,v)→YV P C.n l.toArray H o (TL T0 ps (λk=>decide (k<i)) ps.length) v):∀ (F:List Nat),pendOK P l n F=true →
  ∀ (m:Nat) (listed:Array Bool) (a:Act) (w:World) (fuel:Nat),listed.size=l.length→(∀ i,i<n→i∉F→listed.getD i false=true)→(∀ i,n≤i→listed.getD i false=false)→Closed l M listed→((List.range n).filter λi=>!listed.getD i false).length=m →
  R C bs ⟨TL T0 ps (λk=>listed.getD k false) ps.length,H⟩ a w →
  (∀ (listed':Array Bool) (a':Act),listed'.size=l.length→(∀ i,i<n→listed'.getD i false=true)→(∀ i,n≤i→listed'.getD i false=false)→Closed l M listed'→R C bs ⟨TL T0 ps (λk=>listed'.getD k false) ps.length,H⟩ a' w→wpAny P .any l.toArray (QR C Q) fuel listed' a' w) →
  wpAny P .any l.toArray (QR C Q) (m+fuel) listed a w
 | [],_,m,listed,a,w,fuel,hsz,hnon,hlate,hcl,hm,hR,hk=>by
  have hall:∀ i,i<n→listed.getD i false=true:=λi hi=>hnon i hi (by simp)
  have h0:m=0:=by
   rw [← hm,List.length_eq_zero_iff,uC];intro i hi;simp [hall i (yX.1 hi)]
  subst h0;rw [uq];exact hk listed a hsz hall hlate hcl hR
 | i::F,hF,m,listed,a,w,fuel,hsz,hnon,hlate,hcl,hm,hR,hk=>by
  obtain ⟨⟨oi,f⟩,hF'⟩:=pendOK_cons hF;cases hil:listed.getD i false with
  | true=>exact wpAny_pend hQ hsel hfst hpn hnl ok hy F hF' m listed a w fuel hsz (λj hj hjF=>by
    by_cases e:j=i
    ·rw [e];exact hil
    ·exact hnon j hj (by simp [e,hjF])) hlate hcl hm hR hk
  | false=>
   have hilt:=(yb.1 f.at_).1;have hips:i<ps.length:=by rw [hpn];exact f.lt
   have hpi:ps[i]? = some (ps[i].1,ps[i].2):=yA hips;have hoi:oi=ps[i].1:=by have:=hfst i _ _ hpi;rw [f.at_] at this;simpa using this
   have hedges:∀ e∈oi.after.toList,Region.binds .any e=true→listed.getD e.on false=true:=λe he hb=>by
    have:=ok.back i oi f.at_ e he hb;exact hnon _ (by have:=f.lt;omega) (f.after e he hb)
   have hbef:=zeQ ok hcl f.at_ hedges;have hready:i∈Region.ready .any l.toArray listed:=zfc.2 ⟨oi,f.at_,by rw [zbJ _ _ (by omega)];exact hil,hedges⟩;have hlook:∀ t∈oi.looksAt l.toArray,look t (TL T0 ps (λk=>decide (k<i)) ps.length)=look t (TL T0 ps (λk=>listed.getD k false) ps.length):=by
    intro t ht;refine zdE (λk ok' vk hk hd=>?_) ps.length;have hlk:=hfst k ok' vk hk;rcases Nat.lt_trichotomy k i with hki | hki | hki
    ·simp only [hki,decide_true];rcases ok.pair k i ok' _ hki hlk f.at_ with hb | hap
     ·exact (hbef k hb).symm
     ·exact absurd ht ((Oper.apart_spec hap).1 t hd)
    ·subst hki;simp only [Nat.lt_irrefl,decide_false];exact hil.symm
    ·simp only [show ¬ k<i by omega,decide_false];cases hb:listed.getD k false with
     | false=>rfl
     | true=>
      exfalso;rcases ok.pair i k _ ok' hki f.at_ hlk with hb2 | hap
      ·have:=hcl k (by have:=(yb.1 hlk).1;omega) hb i hb2;rw [hil] at this;cases this
      ·exact (Oper.apart_spec hap).2.2 t hd ht
   have hyi:=(hy i _ _ hpi).congr (by rw [← hoi];exact hlook);rw [← hoi] at hyi;obtain ⟨hdst,hyi⟩:=hyi;have hnsp:z0 oi=false:=by
    have h:=f.pure_;unfold pureOp at h;split at h <;> first | (exfalso;revert h;decide) | (rename_i ho;simp [z0,ho])
   have hyields:∃ u,Yields P l.toArray oi u a∧V.rep (Own C.A0 bs) w bs H ps[i].2 u:=by
    have run:OpV P oi (ev (TL T0 ps (λk=>listed.getD k false) ps.length)) H ps[i].2→∃ u,(∀ w',(execOp a.eval oi).run P w' = .ok (.value u) w')∧V.rep (Own C.A0 bs) w bs H ps[i].2 u:=λhop=>by
     have hrun:=hop.run C.A0 bs w a.eval hR.mem (λx _ y hx=>hR.ev hx) (λ_=>rfl) (λ_=>rfl);obtain ⟨u,⟨hf,hu⟩,hall⟩:=pureOp_run f.pure_ hrun;exact ⟨u,hall,hu⟩
    rcases hyi with ⟨_,hg,hv⟩ | ⟨_,⟨t,r,q,_⟩,_⟩ | ⟨_,j,want,g,hg,hj,hyi⟩ | ⟨_,t,r,y,d,k,q,_⟩
    ·obtain ⟨u,h1,h2⟩:=run hv;exact ⟨u,.inl ⟨by simp [Region.wanted,hg],h1⟩,h2⟩
    ·simp [z0,q] at hnsp
    ·rcases hyi with ⟨hl,hv⟩ | ⟨hl,hv⟩
     ·obtain ⟨u,h1,h2⟩:=run hv;have h3:=hR.yielded hj hl;exact ⟨u,.inl ⟨by simp [Region.wanted,hg,h3,zf4],h1⟩,h2⟩
     ·refine ⟨undef,.inr ⟨?_,rfl⟩,by rw [hv];simp only [V.rep,D.rep]⟩;rcases hl with hl | hl
      ·have h3:=hR.yielded hj hl;simp [Region.wanted,hg,h3,undef,zf4]
      ·have h3:=hR.yielded hj hl;simp [Region.wanted,hg,h3,zf4]
    ·simp [z0,q] at hnsp
   obtain ⟨u,hyields,hu⟩:=hyields;have hselA:∀ (j:Nat) (o:Oper) cs b,l.toArray[j]? = some o→o.op≠.select cs b:=λj o cs b hj hs=>by
    have:=(yo.1 hsel) o (by simp at hj;exact yu hj);simp [zgR,hs] at this
   have hcnt:=count_set (listed:=listed) (i:=i) hil (by omega) n f.lt;obtain ⟨m',rfl⟩:∃ m',m=m'+1:=⟨m - 1,by omega⟩
   rw [show m'+1+fuel=m'+fuel+1 by omega];refine wpAny_first (i:=i) (oi:=oi) (v:=u) (by simpa using f.at_) hselA (λc a w h=>h.elim (λ⟨bs',s',hq,_⟩=>absurd hq (hQ c s')) (λh=>(by cases h.1))) (m'+fuel) listed a w (λj oj hj hji hjl hw=>?_) hready hyields ?_
   ·simp only [List.getElem?_toArray] at hj;have hjlt:=(yb.1 hj).1;rw [zbJ _ _ (by omega)] at hjl;refine f.apart j oj hj hji (λhjn=>?_) (λe he hb=>hw e (by simpa using he) hb);refine Classical.byContradiction λhc=>?_
    rw [hnon j hjn (by simp [hji,hc])] at hjl;cases hjl
   ·have hget:∀ k,(listed.setIfInBounds i true).getD k false=if k=i then true else listed.getD k false:=λk=>zZ _ _ _ _ (by omega)
    refine wpAny_pend hQ hsel hfst hpn hnl ok hy F hF' m' (listed.setIfInBounds i true) _ w fuel (by simpa using hsz) (λj hj hjF=>?_) (λj hj=>?_) ?_ (by omega) ?_ hk
    ·rw [hget];split
     ·rfl
     ·rename_i e;exact hnon j hj (by simp [e,hjF])
    ·rw [hget,if_neg (by have:=f.lt;omega)];exact hlate j hj
    ·intro j hj hjl i' hi';rw [hget] at hjl ⊢;split
     ·rfl
     ·split at hjl <;> rename_i hji
      ·subst hji;exact hbef i' hi'
      ·exact hcl j hj hjl i' hi'
    ·have hput:=hR.put (Fr.refl _ _) oi.dst hdst hu;rw [St.put_eq] at hput;refine hput.weaken λt v hv=>?_
     rw [← hv,TL_put ok hfst hsz hcl hpi hil hbef t,← hoi]
theorem Tri.drawG {P C Q s id l} (n F) (hm:P.follows .mixedOrders=true) (hok:regOKF l n F=true) (hf:(pendOK P l n F&&l.all (λo=>!zgR o)&&(l.take n).all (λo=>!z0 o)&&decide (n≤l.length)&&zf3 (l.take n)&&zeU (l.take n))=true)
  (h:TriQ P C.n l.toArray s.H (l.take n) [] s.T (λ_ T=>TriL P C l.toArray (l.drop n) (zba Q) ⟨T,s.H⟩)):Tri P C (.region id l.toArray true) Q s:=by
 simp only [yc,yd] at hf;obtain ⟨⟨⟨⟨⟨hf1,hf2⟩,hf3⟩,hn⟩,ha1⟩,ha2⟩:=hf;refine Tri.mono (Q:=zba Q) ⟨λbs a w hR=>?_⟩ (λe s hq=>by cases e <;> first | exact hq.elim | exact hq);obtain ⟨M,ok⟩:=ziP hok;obtain ⟨qs,hq1,hq2,T',hK,hq3⟩:=TriQ0.path (T0:=s.T) (l.take n) [] s.T [] (λ_=>rfl) h.run;simp only [yV,uz,uq] at hq2 hq3 hK;have hlen:qs.length=n:=by have:=congrArg List.length hq1;simp at this;omega
 have hl:l=qs.map (·.1)++l.drop n:=by rw [hq1,uB]
 have hfst:∀ (i:Nat) (o:Oper) (v:V),qs[i]? = some (o,v)→l[i]? = some o:=λi o v hi=>by
  rw [hl,yg (by simpa using (yb.1 hi).1)];simp [hi]
 have hnos:∀ o∈qs.map (·.1),z0 o=false:=λo ho=>by rw [hq1] at ho;simpa using (yo.1 hf3) o ho
 have hevs:evsOf qs=[]:=by
  unfold evsOf;rw [List.flatMap_eq_nil_iff];intro p hp;exact zea (hnos p.1 (yU.2 ⟨p,hp,rfl⟩))
 have hal:zf3 (qs.map (·.1))=true∧zeU (qs.map (·.1))=true:=by rw [hq1];exact ⟨ha1,ha2⟩
 have hf0:∀ i,(Array.replicate l.toArray.size false).getD i false=false:=λi=>by
  simp only [yP,Array.getElem?_replicate];split <;> rfl
 refine wp_region_any hm ?_;have hend:TriL P C l.toArray (l.drop n) (zba Q) ⟨ptrsOf (allocs (evsOf qs)) s.H.length (TL s.T qs (λ_=>true) qs.length),s.H++zf5 P (evsOf qs)⟩:=by
  have e:zf5 P (evsOf qs)=[]:=by rw [hevs];rfl
  rw [e,hevs,ur];exact TriL.wk hq3 hK
 have hR2:R C bs ⟨TL s.T qs (λk=>(Array.replicate l.toArray.size false).getD k false) qs.length,s.H⟩ a { w with drawn:=w.drawn+1 }:=by
  refine hR.drew.weaken λt v hv=>?_
  rw [← hv];have:TL s.T qs (λk=>(Array.replicate l.toArray.size false).getD k false) qs.length=TL s.T qs (λk=>(Array.replicate l.toArray.size false).getD k false) 0:=by
   have:=zef (T:=s.T) (ps:=qs) (p:=λk=>(Array.replicate l.toArray.size false).getD k false) (m:=0) (λi _=>hf0 i) qs.length;simpa using this
  rw [this];rfl
 have ok':RegOK l qs.length M F:=by rw [hlen];exact ok
 have noF:∀ {listed:Array Bool} {G:Nat→Option Nat} {a:Act} {w:World},Fresh P C bs qs (λk=>listed.getD k false) G a w→∀ i b,G i≠some b:=λhF i b hb=>by
  obtain ⟨_,o,v,t,r,h1,h2,_⟩:=hF.dom i b hb;have:=hnos o (yU.2 ⟨(o,v),yu h1,rfl⟩);simp [z0,h2] at this
 have nofresh:∀ (listed:Array Bool) (a:Act) (w:World),Fresh P C bs qs (λk=>listed.getD k false) (λ_=>none) a w:=λlisted a w=>by
  refine ⟨λi b h=>(by cases h),λi o v t r h1 h2 _ _=>?_,λi j b h=>(by cases h),λi b h=>(by cases h)⟩;have:=hnos o (yU.2 ⟨(o,v),yu h1,rfl⟩);simp [z0,h2] at this
 have toPlus:∀ {st:St} {a:Act} {w:World},R C bs st a w→R (C.plus λ_=>none) bs st a w:=λq=>q.own_more (A:=(C.plus λ_=>none).A0) (Fr.refl zd _) (λb _ hb=>hb.elim (λh=>h) (λ⟨i,h⟩=>(by cases h))) (λb hb=>hb.elim (q.own.foreign b) (λ⟨i,h⟩=>(by cases h)))
 refine zhq (P:=P) (C:=C) (bs:=bs) (H:=s.H) (T0:=s.T) (Q:=zba Q) (ps:=qs) (l2:=l.drop n) (M:=M) (L0:=F) (l:=l) hl ok' (λi o v hi=>hq2 i o v hi) hal.1 hal.2 (λ_=>True) (λ_ _ _ _ _=>trivial) (λm listed a w hsz _ hlate hcl hm hnon _ ⟨G,hRG,hFG,_⟩=>?_) hend _ _ a _ (by simp) trivial (λi _=>hf0 i) (λj _ hj=>by rw [hf0 j] at hj;cases hj) ?_ ⟨λ_=>none,toPlus hR2,nofresh _ _ _,λi b h=>(by cases h)⟩
 ·have hRC:R C bs ⟨TL s.T qs (λk=>listed.getD k false) qs.length,s.H⟩ a w:=by
   have:=hRG.own_more (A:=C.A0) (Fr.refl zd _) (λb _ hb=>.inl hb) (λb hb=>hRG.own.foreign b (.inl hb));exact this
  refine wpAny_pend (n:=n) (λc s h=>h) hf2 hfst hlen hn ok hq2 F hf1 m listed a w (l.drop n).length hsz (λi hi hiF=>hnon i (by omega) hiF) (λi hi=>hlate i (by omega)) hcl (by rw [← hlen];exact hm) hRC λlisted' a' g1 g2 g3 g4 g5=>?_
  have hc0:((List.range qs.length).filter λi=>!listed'.getD i false).length+(l.drop n).length=(l.drop n).length:=by
   have:((List.range qs.length).filter λi=>!listed'.getD i false)=[]:=by
    rw [uC];intro i hi;simp [g2 i (by have:=yX.1 hi;omega)]
   rw [this];simp
  exact zfL (P:=P) (C:=C) (bs:=bs) (H:=s.H) (T0:=s.T) (Q:=zba Q) (ps:=qs) (l2:=l.drop n) (M:=M) (L0:=F) (l:=l) hl ok' (λi o v hi=>hq2 i o v hi) hal.1 hal.2 hend _ listed' a' w g1 (λi hi=>by
   by_cases h:i<n
   ·exact g2 i h
   ·exfalso;have:∀ (F:List Nat),pendOK P l n F=true→∀ i∈F,i<n:=by
     intro F
     induction F with
     | nil=>intro _;simp
     | cons i F ih=>
      intro h j hj;obtain ⟨⟨oi,f⟩,h'⟩:=pendOK_cons h;rcases yI.1 hj with rfl | hj
      ·exact f.lt
      ·exact ih h' j hj
    exact h (this F hf1 i hi)) (λi hi=>g3 i (by omega)) g4 hc0 ⟨λ_=>none,toPlus g5,nofresh _ _ _,λi b h=>(by cases h)⟩
 ·have e1:((List.range qs.length).filter λi=>!(Array.replicate l.toArray.size false).getD i false)=List.range qs.length:=by
   rw [List.filter_eq_self];intro i _;rw [hf0 i];rfl
  rw [e1];simp;omega
end
section
variable [Env]
noncomputable abbrev pg:=Tryz.prog
abbrev eA l:=D.sl 1 (List.map D.int l)
abbrev eB l:=D.sl 6 (List.map Table.enc l)
abbrev eC l:=D.sl 1 (List.map D.str l)
abbrev eD l:=D.sl 6 (List.map Constraint.enc l)
abbrev eE l:=D.sl 3 (List.map Operation.enc l)
abbrev eF l:=D.sl 5 (List.map Action.enc l)
abbrev eG l:=D.sl 3 (List.map Hide.enc l)
abbrev eH l:=D.sl 2 (List.map Row.enc l)
abbrev eI l:=D.sl 3 (List.map Update.enc l)
abbrev eJ l:=D.sl 1 (List.map D.bool l)
abbrev eK l:=D.sl 2 (List.map Range.enc l)
abbrev eL l:=D.sl 2 (List.map Term.enc l)
abbrev eM l:=D.sl 2 (List.map Change.enc l)
abbrev eN l:=D.sl 1 (List.map eA l)
abbrev eO l:=D.sl 4 (List.map Token.enc l)
theorem D.Les.e {d:D} {a b:List D} (h:D.Les a b):D.Les (d::a) (d::b):=.cons (.refl _) h
theorem D.Les.o {k:Nat} {a b:List D} (h:D.Les a b):D.Les (.val (.slice none 0 0)::a) (.sl k []::b):=.cons (.nil _) h
theorem D.Les.e1 {d:D}:D.Les [d] [d]:=.e .nil
theorem D.Les.o1 {k:Nat}:D.Les [.val (.slice none 0 0)] [.sl k []]:=.o .nil
theorem FrzIs.v {H:List Blk} {ids:List Nat} {d:D} {a:List V} {b:List D} (h:FrzIs H ids a b):FrzIs H ids (.d d::a) (d::b):=.cons (.d _) h
theorem Frzs.v {H:List Blk} {d:D} {a:List V} {b:List D} (h:Frzs H a b):Frzs H (.d d::a) (d::b):=.cons (.d _) h
theorem Frzs.v1 {H:List Blk} {d:D}:Frzs H [.d d] [d]:=.v .nil
theorem FrzIs.v1 {H:List Blk} {ids:List Nat} {d:D}:FrzIs H ids [.d d] [d]:=.v .nil
theorem IB213:IsIdxByte pg 213:=⟨_,Tryz.func213,by kernel_rfl,by kernel_rfl,by kernel_rfl,by kernel_rfl⟩
theorem U3:Tryz.prog.underlying 3=some (.int .i64):=by kernel_rfl
theorem U4:Tryz.prog.underlying 4=some (.bool):=by kernel_rfl
theorem U5:Tryz.prog.underlying 5=some (.int .u8):=by kernel_rfl
theorem U9:Tryz.prog.underlying 9=some (.string):=by kernel_rfl
theorem U21:Tryz.prog.underlying 21=some (.int .i32):=by kernel_rfl
theorem U22:Tryz.prog.underlying 22=some (.slice 3):=by kernel_rfl
theorem U23:Tryz.prog.underlying 23=some (.slice 119):=by kernel_rfl
theorem U24:Tryz.prog.underlying 24=some (.slice 9):=by kernel_rfl
theorem U25:Tryz.prog.underlying 25=some (.slice 74):=by kernel_rfl
theorem U26:Tryz.prog.underlying 26=some (.slice 123):=by kernel_rfl
theorem U27:Tryz.prog.underlying 27=some (.slice 62):=by kernel_rfl
theorem U28:Tryz.prog.underlying 28=some (.slice 153):=by kernel_rfl
theorem U56:Tryz.prog.underlying 56=some (.slice 125):=by kernel_rfl
theorem U57:Tryz.prog.underlying 57=some (.slice 69):=by kernel_rfl
theorem U58:Tryz.prog.underlying 58=some (.slice 184):=by kernel_rfl
theorem U67:Tryz.prog.underlying 67=some (.slice 77):=by kernel_rfl
theorem U82:Tryz.prog.underlying 82=some (.slice 85):=by kernel_rfl
theorem U108:Tryz.prog.underlying 108=some (.slice 4):=by kernel_rfl
theorem U140:Tryz.prog.underlying 140=some (.slice 5):=by kernel_rfl
theorem U142:Tryz.prog.underlying 142=some (.slice 22):=by kernel_rfl
theorem U188:Tryz.prog.underlying 188=some (.map 9 4):=by kernel_rfl
theorem U196:Tryz.prog.underlying 196=some (.map 3 4):=by kernel_rfl
theorem U201:Tryz.prog.underlying 201=some (.int .u64):=by kernel_rfl
theorem U223:Tryz.prog.underlying 223=some (.slice 227):=by kernel_rfl
theorem U237:Tryz.prog.underlying 237=some (.int .u32):=by kernel_rfl
theorem U288:Tryz.prog.underlying 288=some (.array 256 5):=by kernel_rfl
theorem UI166:Tryz.prog.underlying 166=some (.interface (Tryz.prog.methodsAt 166)):=by kernel_rfl
theorem S3:(Tryz.prog.info? 3).map (·.size)=some 1:=by kernel_rfl
theorem S4:(Tryz.prog.info? 4).map (·.size)=some 1:=by kernel_rfl
theorem S5:(Tryz.prog.info? 5).map (·.size)=some 1:=by kernel_rfl
theorem S9:(Tryz.prog.info? 9).map (·.size)=some 1:=by kernel_rfl
theorem S22:(Tryz.prog.info? 22).map (·.size)=some 1:=by kernel_rfl
theorem S62:(Tryz.prog.info? 62).map (·.size)=some 5:=by kernel_rfl
theorem S69:(Tryz.prog.info? 69).map (·.size)=some 2:=by kernel_rfl
theorem S74:(Tryz.prog.info? 74).map (·.size)=some 6:=by kernel_rfl
theorem S77:(Tryz.prog.info? 77).map (·.size)=some 2:=by kernel_rfl
theorem S85:(Tryz.prog.info? 85).map (·.size)=some 2:=by kernel_rfl
theorem S119:(Tryz.prog.info? 119).map (·.size)=some 6:=by kernel_rfl
theorem S123:(Tryz.prog.info? 123).map (·.size)=some 3:=by kernel_rfl
theorem S125:(Tryz.prog.info? 125).map (·.size)=some 2:=by kernel_rfl
theorem S153:(Tryz.prog.info? 153).map (·.size)=some 3:=by kernel_rfl
theorem S184:(Tryz.prog.info? 184).map (·.size)=some 3:=by kernel_rfl
theorem S227:(Tryz.prog.info? 227).map (·.size)=some 4:=by kernel_rfl
theorem Y3:zE pg 3=some (none):=by kernel_rfl
theorem Y4:zE pg 4=some (none):=by kernel_rfl
theorem Y5:zE pg 5=some (none):=by kernel_rfl
theorem Y9:zE pg 9=some (none):=by kernel_rfl
theorem Y22:zE pg 22=some (none):=by kernel_rfl
theorem Y23:zE pg 23=some (none):=by kernel_rfl
theorem Y24:zE pg 24=some (none):=by kernel_rfl
theorem Y25:zE pg 25=some (none):=by kernel_rfl
theorem Y26:zE pg 26=some (none):=by kernel_rfl
theorem Y27:zE pg 27=some (none):=by kernel_rfl
theorem Y28:zE pg 28=some (none):=by kernel_rfl
theorem Y30:zE pg 30=some (some 7):=by kernel_rfl
theorem Y34:zE pg 34=some (some 4):=by kernel_rfl
theorem Y36:zE pg 36=some (some 5):=by kernel_rfl
theorem Y56:zE pg 56=some (none):=by kernel_rfl
theorem Y57:zE pg 57=some (none):=by kernel_rfl
theorem Y58:zE pg 58=some (none):=by kernel_rfl
theorem Y60:zE pg 60=some (some 3):=by kernel_rfl
theorem Y62:zE pg 62=some (some 5):=by kernel_rfl
theorem Y67:zE pg 67=some (none):=by kernel_rfl
theorem Y69:zE pg 69=some (some 2):=by kernel_rfl
theorem Y74:zE pg 74=some (some 6):=by kernel_rfl
theorem Y77:zE pg 77=some (some 2):=by kernel_rfl
theorem Y82:zE pg 82=some (none):=by kernel_rfl
theorem Y85:zE pg 85=some (some 2):=by kernel_rfl
theorem Y106:zE pg 106=some (some 3):=by kernel_rfl
theorem Y108:zE pg 108=some (none):=by kernel_rfl
theorem Y119:zE pg 119=some (some 6):=by kernel_rfl
theorem Y123:zE pg 123=some (some 3):=by kernel_rfl
theorem Y125:zE pg 125=some (some 2):=by kernel_rfl
theorem Y153:zE pg 153=some (some 3):=by kernel_rfl
theorem Y156:zE pg 156=some (some 8):=by kernel_rfl
theorem Y184:zE pg 184=some (some 3):=by kernel_rfl
theorem Y188:zE pg 188=some (none):=by kernel_rfl
theorem Y196:zE pg 196=some (none):=by kernel_rfl
theorem Y202:zE pg 202=some (none):=by kernel_rfl
theorem Y218:zE pg 218=some (some 2):=by kernel_rfl
theorem Z3:zaW pg 3 (none)=true:=by kernel_rfl
theorem Z30:zaW pg 30 (some 7)=true:=by kernel_rfl
theorem Z34:zaW pg 34 (some 4)=true:=by kernel_rfl
theorem Z36:zaW pg 36 (some 5)=true:=by kernel_rfl
theorem Z60:zaW pg 60 (some 3)=true:=by kernel_rfl
theorem Z62:zaW pg 62 (some 5)=true:=by kernel_rfl
theorem Z69:zaW pg 69 (some 2)=true:=by kernel_rfl
theorem Z74:zaW pg 74 (some 6)=true:=by kernel_rfl
theorem Z77:zaW pg 77 (some 2)=true:=by kernel_rfl
theorem Z85:zaW pg 85 (some 2)=true:=by kernel_rfl
theorem Z119:zaW pg 119 (some 6)=true:=by kernel_rfl
theorem Z123:zaW pg 123 (some 3)=true:=by kernel_rfl
theorem Z125:zaW pg 125 (some 2)=true:=by kernel_rfl
theorem Z153:zaW pg 153 (some 3)=true:=by kernel_rfl
theorem Z156:zaW pg 156 (some 8)=true:=by kernel_rfl
theorem Z184:zaW pg 184 (some 3)=true:=by kernel_rfl
theorem ZZ69:(zb3 pg 69).isSome=true:=by kernel_rfl
theorem ZZ119:(zb3 pg 119).isSome=true:=by kernel_rfl
theorem ZZ156:(zb3 pg 156).isSome=true:=by kernel_rfl
theorem C3:cellsOf pg 3=some 1:=by kernel_rfl
theorem C4:cellsOf pg 4=some 1:=by kernel_rfl
theorem C9:cellsOf pg 9=some 1:=by kernel_rfl
theorem C22:cellsOf pg 22=some 1:=by kernel_rfl
theorem C24:cellsOf pg 24=some 1:=by kernel_rfl
theorem C30:cellsOf pg 30=some 7:=by kernel_rfl
theorem C36:cellsOf pg 36=some 5:=by kernel_rfl
theorem C62:cellsOf pg 62=some 5:=by kernel_rfl
theorem C74:cellsOf pg 74=some 6:=by kernel_rfl
theorem C77:cellsOf pg 77=some 2:=by kernel_rfl
theorem C106:cellsOf pg 106=some 3:=by kernel_rfl
theorem C119:cellsOf pg 119=some 6:=by kernel_rfl
theorem C196:cellsOf pg 196=some 1:=by kernel_rfl
theorem C202:cellsOf pg 202=some 1:=by kernel_rfl
theorem C218:cellsOf pg 218=some 2:=by kernel_rfl
theorem C227:cellsOf pg 227=some 4:=by kernel_rfl
theorem E22:zbW pg 22 3 1 8=true:=by kernel_rfl
theorem E23:zbW pg 23 119 6 72=true:=by kernel_rfl
theorem E24:zbW pg 24 9 1 16=true:=by kernel_rfl
theorem E25:zbW pg 25 74 6 64=true:=by kernel_rfl
theorem E26:zbW pg 26 123 3 48=true:=by kernel_rfl
theorem E27:zbW pg 27 62 5 104=true:=by kernel_rfl
theorem E56:zbW pg 56 125 2 16=true:=by kernel_rfl
theorem E67:zbW pg 67 77 2 16=true:=by kernel_rfl
theorem E82:zbW pg 82 85 2 16=true:=by kernel_rfl
theorem E108:zbW pg 108 4 1 1=true:=by kernel_rfl
theorem E140:zbW pg 140 5 1 1=true:=by kernel_rfl
theorem E142:zbW pg 142 22 1 24=true:=by kernel_rfl
theorem E202:zbW pg 202 206 2 32=true:=by kernel_rfl
theorem E223:zbW pg 223 227 4 32=true:=by kernel_rfl
theorem F30_0:fldAt pg 30 0=some (0,none):=by kernel_rfl
theorem F30_1:fldAt pg 30 1=some (1,none):=by kernel_rfl
theorem F30_2:fldAt pg 30 2=some (2,none):=by kernel_rfl
theorem F30_3:fldAt pg 30 3=some (3,none):=by kernel_rfl
theorem F30_4:fldAt pg 30 4=some (4,none):=by kernel_rfl
theorem F30_5:fldAt pg 30 5=some (5,none):=by kernel_rfl
theorem F30_6:fldAt pg 30 6=some (6,none):=by kernel_rfl
theorem F32_0:fldAt pg 32 0=some (0,none):=by kernel_rfl
theorem F32_1:fldAt pg 32 1=some (1,none):=by kernel_rfl
theorem F34_0:fldAt pg 34 0=some (0,none):=by kernel_rfl
theorem F34_1:fldAt pg 34 1=some (1,none):=by kernel_rfl
theorem F34_2:fldAt pg 34 2=some (2,some 2):=by kernel_rfl
theorem F36_0:fldAt pg 36 0=some (0,some 4):=by kernel_rfl
theorem F36_1:fldAt pg 36 1=some (4,none):=by kernel_rfl
theorem F60_0:fldAt pg 60 0=some (0,none):=by kernel_rfl
theorem F60_1:fldAt pg 60 1=some (1,none):=by kernel_rfl
theorem F60_2:fldAt pg 60 2=some (2,none):=by kernel_rfl
theorem F62_0:fldAt pg 62 0=some (0,none):=by kernel_rfl
theorem F62_1:fldAt pg 62 1=some (1,none):=by kernel_rfl
theorem F62_2:fldAt pg 62 2=some (2,some 3):=by kernel_rfl
theorem F69_0:fldAt pg 69 0=some (0,none):=by kernel_rfl
theorem F69_1:fldAt pg 69 1=some (1,none):=by kernel_rfl
theorem F74_0:fldAt pg 74 0=some (0,none):=by kernel_rfl
theorem F74_1:fldAt pg 74 1=some (1,none):=by kernel_rfl
theorem F74_2:fldAt pg 74 2=some (2,some 2):=by kernel_rfl
theorem F74_3:fldAt pg 74 3=some (4,none):=by kernel_rfl
theorem F74_4:fldAt pg 74 4=some (5,none):=by kernel_rfl
theorem F77_0:fldAt pg 77 0=some (0,none):=by kernel_rfl
theorem F77_1:fldAt pg 77 1=some (1,none):=by kernel_rfl
theorem F85_0:fldAt pg 85 0=some (0,none):=by kernel_rfl
theorem F85_1:fldAt pg 85 1=some (1,none):=by kernel_rfl
theorem F106_0:fldAt pg 106 0=some (0,none):=by kernel_rfl
theorem F106_1:fldAt pg 106 1=some (1,none):=by kernel_rfl
theorem F106_2:fldAt pg 106 2=some (2,none):=by kernel_rfl
theorem F119_0:fldAt pg 119 0=some (0,none):=by kernel_rfl
theorem F119_1:fldAt pg 119 1=some (1,none):=by kernel_rfl
theorem F119_2:fldAt pg 119 2=some (2,none):=by kernel_rfl
theorem F119_3:fldAt pg 119 3=some (3,some 2):=by kernel_rfl
theorem F119_4:fldAt pg 119 4=some (5,none):=by kernel_rfl
theorem F123_0:fldAt pg 123 0=some (0,none):=by kernel_rfl
theorem F123_2:fldAt pg 123 2=some (2,none):=by kernel_rfl
theorem F125_0:fldAt pg 125 0=some (0,none):=by kernel_rfl
theorem F125_1:fldAt pg 125 1=some (1,none):=by kernel_rfl
theorem F132_0:fldAt pg 132 0=some (0,none):=by kernel_rfl
theorem F132_1:fldAt pg 132 1=some (1,none):=by kernel_rfl
theorem F153_0:fldAt pg 153 0=some (0,none):=by kernel_rfl
theorem F153_1:fldAt pg 153 1=some (1,none):=by kernel_rfl
theorem F153_2:fldAt pg 153 2=some (2,none):=by kernel_rfl
theorem F156_0:fldAt pg 156 0=some (0,some 7):=by kernel_rfl
theorem F156_1:fldAt pg 156 1=some (7,none):=by kernel_rfl
theorem F184_0:fldAt pg 184 0=some (0,none):=by kernel_rfl
theorem F184_1:fldAt pg 184 1=some (1,none):=by kernel_rfl
theorem F184_2:fldAt pg 184 2=some (2,none):=by kernel_rfl
theorem F204_0:fldAt pg 204 0=some (0,some 7):=by kernel_rfl
theorem F204_1:fldAt pg 204 1=some (7,none):=by kernel_rfl
theorem F204_2:fldAt pg 204 2=some (8,none):=by kernel_rfl
theorem F218_0:fldAt pg 218 0=some (0,none):=by kernel_rfl
theorem F218_1:fldAt pg 218 1=some (1,none):=by kernel_rfl
theorem F227_0:fldAt pg 227 0=some (0,none):=by kernel_rfl
theorem F227_2:fldAt pg 227 2=some (2,none):=by kernel_rfl
theorem F227_3:fldAt pg 227 3=some (3,none):=by kernel_rfl
theorem G30_0 (x:Model):Fld pg 30 0 x.enc (.sl 1 (List.map D.int x.sorts)):=Fld.of F30_0 rfl rfl
theorem G30_1 (x:Model):Fld pg 30 1 x.enc (.sl 6 (List.map Table.enc x.tables)):=Fld.of F30_1 rfl rfl
theorem G30_2 (x:Model):Fld pg 30 2 x.enc (.sl 1 (List.map D.str x.families)):=Fld.of F30_2 rfl rfl
theorem G30_3 (x:Model):Fld pg 30 3 x.enc (.sl 6 (List.map Constraint.enc x.constraints)):=Fld.of F30_3 rfl rfl
theorem G30_4 (x:Model):Fld pg 30 4 x.enc (.sl 3 (List.map Operation.enc x.operations)):=Fld.of F30_4 rfl rfl
theorem G30_5 (x:Model):Fld pg 30 5 x.enc (.sl 5 (List.map Action.enc x.actions)):=Fld.of F30_5 rfl rfl
theorem G30_6 (x:Model):Fld pg 30 6 x.enc (.sl 3 (List.map Hide.enc x.hides)):=Fld.of F30_6 rfl rfl
theorem G32_0 (x:Target):Fld pg 32 0 x.enc (.bool x.hold):=Fld.of F32_0 rfl rfl
theorem G32_1 (x:Target):Fld pg 32 1 x.enc (.int x.index):=Fld.of F32_1 rfl rfl
theorem G34_0 (x:Question):Fld pg 34 0 x.enc (.int x.e):=Fld.of F34_0 rfl rfl
theorem G34_1 (x:Question):Fld pg 34 1 x.enc (.int x.f):=Fld.of F34_1 rfl rfl
theorem G34_2 (x:Question):Fld pg 34 2 x.enc (Target.enc x.target):=Fld.of F34_2 rfl rfl
theorem G36_0 (x:Scenario):Fld pg 36 0 x.enc (Question.enc x.question):=Fld.of F36_0 rfl rfl
theorem G36_1 (x:Scenario):Fld pg 36 1 x.enc (.sl 1 (List.map D.int x.state)):=Fld.of F36_1 rfl rfl
theorem G60_0 (x:Effect):Fld pg 60 0 x.enc (.sl 2 (List.map Change.enc x.delta)):=Fld.of F60_0 rfl rfl
theorem G60_1 (x:Effect):Fld pg 60 1 x.enc (.sl 2 (List.map Row.enc x.hold)):=Fld.of F60_1 rfl rfl
theorem G60_2 (x:Effect):Fld pg 60 2 x.enc (.sl 3 (List.map Update.enc x.updates)):=Fld.of F60_2 rfl rfl
theorem G62_0 (x:Action):Fld pg 62 0 x.enc (.int x.operation):=Fld.of F62_0 rfl rfl
theorem G62_1 (x:Action):Fld pg 62 1 x.enc (.sl 1 (List.map D.int x.arguments)):=Fld.of F62_1 rfl rfl
theorem G62_2 (x:Action):Fld pg 62 2 x.enc (Effect.enc x.effect):=Fld.of F62_2 rfl rfl
theorem G69_0 (x:Row):Fld pg 69 0 x.enc (.sl 2 (List.map Term.enc x.terms)):=Fld.of F69_0 rfl rfl
theorem G69_1 (x:Row):Fld pg 69 1 x.enc (.int x.bound):=Fld.of F69_1 rfl rfl
theorem G74_0 (x:Constraint):Fld pg 74 0 x.enc (.int x.kind):=Fld.of F74_0 rfl rfl
theorem G74_1 (x:Constraint):Fld pg 74 1 x.enc (.int x.family):=Fld.of F74_1 rfl rfl
theorem G74_2 (x:Constraint):Fld pg 74 2 x.enc (Row.enc x.row):=Fld.of F74_2 rfl rfl
theorem G74_3 (x:Constraint):Fld pg 74 3 x.enc (.int x.first):=Fld.of F74_3 rfl rfl
theorem G74_4 (x:Constraint):Fld pg 74 4 x.enc (.int x.size):=Fld.of F74_4 rfl rfl
theorem G77_0 (x:Term):Fld pg 77 0 x.enc (.int x.cell):=Fld.of F77_0 rfl rfl
theorem G77_1 (x:Term):Fld pg 77 1 x.enc (.int x.factor):=Fld.of F77_1 rfl rfl
theorem G85_0 (x:Range):Fld pg 85 0 x.enc (.int x.lo):=Fld.of F85_0 rfl rfl
theorem G85_1 (x:Range):Fld pg 85 1 x.enc (.int x.hi):=Fld.of F85_1 rfl rfl
theorem G106_0 (x:Graph):Fld pg 106 0 x.enc (.int x.first):=Fld.of F106_0 rfl rfl
theorem G106_1 (x:Graph):Fld pg 106 1 x.enc (.int x.size):=Fld.of F106_1 rfl rfl
theorem G106_2 (x:Graph):Fld pg 106 2 x.enc (.sl 1 (List.map D.int x.least)):=Fld.of F106_2 rfl rfl
theorem zhI (x:Table):Fld pg 119 0 x.enc (.str x.name):=Fld.of F119_0 rfl rfl
theorem zcm (x:Table):Fld pg 119 1 x.enc (.int x.kind):=Fld.of F119_1 rfl rfl
theorem zbl (x:Table):Fld pg 119 2 x.enc (.sl 1 (List.map D.int x.columns)):=Fld.of F119_2 rfl rfl
theorem zdP (x:Table):Fld pg 119 3 x.enc (Range.enc x.range):=Fld.of F119_3 rfl rfl
theorem zfN (x:Table):Fld pg 119 4 x.enc (.int x.first):=Fld.of F119_4 rfl rfl
theorem G123_0 (x:Operation):Fld pg 123 0 x.enc (.str x.name):=Fld.of F123_0 rfl rfl
theorem zf1 (x:Operation):Fld pg 123 2 x.enc (.sl 1 (List.map D.int x.sorts)):=Fld.of F123_2 rfl rfl
theorem zhJ (x:Change):Fld pg 125 0 x.enc (.int x.cell):=Fld.of F125_0 rfl rfl
theorem G125_1 (x:Change):Fld pg 125 1 x.enc (.int x.add):=Fld.of F125_1 rfl rfl
theorem zf2 (x:Hide):Fld pg 153 0 x.enc (.int x.table):=Fld.of F153_0 rfl rfl
theorem G153_1 (x:Hide):Fld pg 153 1 x.enc (.int x.column):=Fld.of F153_1 rfl rfl
theorem zg4 (x:Hide):Fld pg 153 2 x.enc (.int x.to):=Fld.of F153_2 rfl rfl
theorem zbU (x:Judge):Fld pg 156 0 x.enc (Model.enc x.model):=Fld.of F156_0 rfl rfl
theorem G156_1 (x:Judge):Fld pg 156 1 x.enc (.sl 2 (List.map Range.enc x.strict)):=Fld.of F156_1 rfl rfl
theorem G184_0 (x:Update):Fld pg 184 0 x.enc (.int x.kind):=Fld.of F184_0 rfl rfl
theorem G184_1 (x:Update):Fld pg 184 1 x.enc (.int x.cell):=Fld.of F184_1 rfl rfl
theorem G184_2 (x:Update):Fld pg 184 2 x.enc (.int x.value):=Fld.of F184_2 rfl rfl
theorem G204_0 (x:Layout):Fld pg 204 0 x.enc (Model.enc x.m):=Fld.of F204_0 rfl rfl
theorem G218_0 (x:DGraph):Fld pg 218 0 x.enc (.int x.size):=Fld.of F218_0 rfl rfl
theorem G218_1 (x:DGraph):Fld pg 218 1 x.enc (.sl 1 (List.map D.bool x.edges)):=Fld.of F218_1 rfl rfl
theorem G227_0 (x:Token):Fld pg 227 0 x.enc (.int x.kind):=Fld.of F227_0 rfl rfl
theorem G227_2 (x:Token):Fld pg 227 2 x.enc (.int x.at_):=Fld.of F227_2 rfl rfl
theorem G227_3 (x:Token):Fld pg 227 3 x.enc (.int x.end_):=Fld.of F227_3 rfl rfl
theorem Zc30:zcells pg 30=some [.val (.slice none 0 0),.val (.slice none 0 0),.val (.slice none 0 0),.val (.slice none 0 0),.val (.slice none 0 0),.val (.slice none 0 0),.val (.slice none 0 0)]:=by kernel_rfl
theorem Zc32:zcells pg 32=some [.bool false,.val (.int .i64 0)]:=by kernel_rfl
theorem Zc34:zcells pg 34=some [.val (.int .i64 0),.val (.int .i64 0),.bool false,.val (.int .i64 0)]:=by kernel_rfl
theorem Zc36:zcells pg 36=some [.val (.int .i64 0),.val (.int .i64 0),.bool false,.val (.int .i64 0),.val (.slice none 0 0)]:=by kernel_rfl
theorem Zc60:zcells pg 60=some [.val (.slice none 0 0),.val (.slice none 0 0),.val (.slice none 0 0)]:=by kernel_rfl
theorem Zc62:zcells pg 62=some [.val (.int .i64 0),.val (.slice none 0 0),.val (.slice none 0 0),.val (.slice none 0 0),.val (.slice none 0 0)]:=by kernel_rfl
theorem Zc69:zcells pg 69=some [.val (.slice none 0 0),.val (.int .i64 0)]:=by kernel_rfl
theorem Zc74:zcells pg 74=some [.val (.int .i64 0),.val (.int .i64 0),.val (.slice none 0 0),.val (.int .i64 0),.val (.int .i64 0),.val (.int .i64 0)]:=by kernel_rfl
theorem Zc77:zcells pg 77=some [.val (.int .i64 0),.val (.int .i64 0)]:=by kernel_rfl
theorem Zc85:zcells pg 85=some [.val (.int .i64 0),.val (.int .i64 0)]:=by kernel_rfl
theorem Zc106:zcells pg 106=some [.val (.int .i64 0),.val (.int .i64 0),.val (.slice none 0 0)]:=by kernel_rfl
theorem Zc119:zcells pg 119=some [.val (.string .empty),.val (.int .i64 0),.val (.slice none 0 0),.val (.int .i64 0),.val (.int .i64 0),.val (.int .i64 0)]:=by kernel_rfl
theorem Zc123:zcells pg 123=some [.val (.string .empty),.bool false,.val (.slice none 0 0)]:=by kernel_rfl
theorem Zc125:zcells pg 125=some [.val (.int .i64 0),.val (.int .i64 0)]:=by kernel_rfl
theorem Zc132:zcells pg 132=some [.val (.slice none 0 0),.bool false]:=by kernel_rfl
theorem Zc156:zcells pg 156=some [.val (.slice none 0 0),.val (.slice none 0 0),.val (.slice none 0 0),.val (.slice none 0 0),.val (.slice none 0 0),.val (.slice none 0 0),.val (.slice none 0 0),.val (.slice none 0 0)]:=by kernel_rfl
theorem Zc204:zcells pg 204=some [.val (.slice none 0 0),.val (.slice none 0 0),.val (.slice none 0 0),.val (.slice none 0 0),.val (.slice none 0 0),.val (.slice none 0 0),.val (.slice none 0 0),.val (.slice none 0 0),.val (.slice none 0 0)]:=by kernel_rfl
theorem Zc206:zcells pg 206=some [.val (.int .i64 0),.val (.slice none 0 0)]:=by kernel_rfl
theorem Zc218:zcells pg 218=some [.val (.int .i64 0),.val (.slice none 0 0)]:=by kernel_rfl
theorem Zc227:zcells pg 227=some [.val (.int .i64 0),.val (.int .i64 0),.val (.int .i64 0),.val (.int .i64 0)]:=by kernel_rfl
theorem Zv3:zb3 pg 3=some ((.int .i64 0)):=by kernel_rfl
theorem Zv4:zb3 pg 4=some (.bool false):=by kernel_rfl
theorem Zv9:zb3 pg 9=some ((.string .empty)):=by kernel_rfl
theorem Zv196:zb3 pg 196=some ((.map none)):=by kernel_rfl
theorem Pl30:zbb pg 30=some [(0,1),(1,1),(2,1),(3,1),(4,1),(5,1),(6,1)]:=by kernel_rfl
theorem Pl32:zbb pg 32=some [(0,1),(1,1)]:=by kernel_rfl
theorem Pl34:zbb pg 34=some [(0,1),(1,1),(2,2)]:=by kernel_rfl
theorem Pl36:zbb pg 36=some [(0,4),(4,1)]:=by kernel_rfl
theorem Pl60:zbb pg 60=some [(0,1),(1,1),(2,1)]:=by kernel_rfl
theorem Pl62:zbb pg 62=some [(0,1),(1,1),(2,3)]:=by kernel_rfl
theorem Pl69:zbb pg 69=some [(0,1),(1,1)]:=by kernel_rfl
theorem Pl74:zbb pg 74=some [(0,1),(1,1),(2,2),(4,1),(5,1)]:=by kernel_rfl
theorem Pl77:zbb pg 77=some [(0,1),(1,1)]:=by kernel_rfl
theorem Pl85:zbb pg 85=some [(0,1),(1,1)]:=by kernel_rfl
theorem Pl106:zbb pg 106=some [(0,1),(1,1),(2,1)]:=by kernel_rfl
theorem Pl119:zbb pg 119=some [(0,1),(1,1),(2,1),(3,2),(5,1)]:=by kernel_rfl
theorem Pl123:zbb pg 123=some [(0,1),(1,1),(2,1)]:=by kernel_rfl
theorem Pl125:zbb pg 125=some [(0,1),(1,1)]:=by kernel_rfl
theorem Pl132:zbb pg 132=some [(0,1),(1,1)]:=by kernel_rfl
theorem Pl156:zbb pg 156=some [(0,7),(7,1)]:=by kernel_rfl
theorem Pl204:zbb pg 204=some [(0,7),(7,1),(8,1)]:=by kernel_rfl
theorem Pl206:zbb pg 206=some [(0,1),(1,1)]:=by kernel_rfl
theorem Pl218:zbb pg 218=some [(0,1),(1,1)]:=by kernel_rfl
theorem Pl227:zbb pg 227=some [(0,1),(1,1),(2,1),(3,1)]:=by kernel_rfl
theorem K43:callable pg 43=true:=by kernel_rfl
theorem K61:callable pg 61=true:=by kernel_rfl
theorem K63:callable pg 63=true:=by kernel_rfl
theorem K65:callable pg 65=true:=by kernel_rfl
theorem K96:callable pg 96=true:=by kernel_rfl
theorem K99:callable pg 99=true:=by kernel_rfl
theorem K101:callable pg 101=true:=by kernel_rfl
theorem K102:callable pg 102=true:=by kernel_rfl
theorem K172:callable pg 172=true:=by kernel_rfl
theorem K177:callable pg 177=true:=by kernel_rfl
theorem K201:callable pg 201=true:=by kernel_rfl
theorem K203:callable pg 203=true:=by kernel_rfl
theorem K206:callable pg 206=true:=by kernel_rfl
theorem K211:callable pg 211=true:=by kernel_rfl
theorem K272:callable pg 272=true:=by kernel_rfl
theorem K273:callable pg 273=true:=by kernel_rfl
theorem K286:callable pg 286=true:=by kernel_rfl
theorem K291:callable pg 291=true:=by kernel_rfl
theorem Hm:Tryz.prog.follows .mixedOrders=true:=by kernel_rfl
theorem SE34:EqStruct pg 34 [.int .i64,.int .i64,.bool,.int .i64]:=⟨by kernel_rfl,by kernel_rfl,by kernel_rfl⟩
theorem SE77:EqStruct pg 77 [.int .i64,.int .i64]:=⟨by kernel_rfl,by kernel_rfl,by kernel_rfl⟩
theorem SE85:EqStruct pg 85 [.int .i64,.int .i64]:=⟨by kernel_rfl,by kernel_rfl,by kernel_rfl⟩
def Question.vals (x:Question):List Value:=[.int .i64 x.e,.int .i64 x.f,.bool x.target.hold,.int .i64 x.target.index]
theorem SQ34 (x y:Question):eqVs (Question.vals x) (Question.vals y)=decide (x=y):=by
 rw [Bool.eq_iff_iff,decide_eq_true_iff]
 rcases x with ⟨_,_,⟨_,_⟩⟩;rcases y with ⟨_,_,⟨_,_⟩⟩
 simp [Question.vals,eqVs,eqV,zhG,and_assoc]
def Term.vals (x:Term):List Value:=[.int .i64 x.cell,.int .i64 x.factor]
theorem SQ77 (x y:Term):eqVs (Term.vals x) (Term.vals y)=decide (x=y):=by
 rw [Bool.eq_iff_iff,decide_eq_true_iff]
 rcases x with ⟨_,_⟩;rcases y with ⟨_,_⟩
 simp [Term.vals,eqVs,eqV,zhG,and_assoc]
def Range.vals (x:Range):List Value:=[.int .i64 x.lo,.int .i64 x.hi]
theorem SQ85 (x y:Range):eqVs (Range.vals x) (Range.vals y)=decide (x=y):=by
 rw [Bool.eq_iff_iff,decide_eq_true_iff]
 rcases x with ⟨_,_⟩;rcases y with ⟨_,_⟩
 simp [Range.vals,eqVs,eqV,zhG,and_assoc]
theorem KT3:KeyT pg 3 (λn:Int=>Value.int .i64 n):=KeyT.int U3
theorem KT9:KeyT pg 9 (λl:List UInt8=>Value.string ⟨l.toArray⟩):=KeyT.str U9
abbrev kSl:List Nat:=[9,10,11,12,13,14,15,16,17,19,21,23,24,25,26,27,30,31,33,34,35,36,37,39,40,41,42,43,44,45,46,47,48,49,50,51,52,53,56,59,60,61,62,63,64,65,66,67,68,69,70,71,72,73,74,75,79,80,81,82,83,84,85,86,87,88,89,91,92,93,94,95,96,97,98,99,100,101,102,104,105,107,108,109,110,114,115,116,117,118,119,120,121,122,123,124,125,126,127,128,129,130,131,132,134,135,136,137,138,139,140,142,148,149,150,151,152,155,156,157,158,159,160,161,162,163,164,165,166,167,168,169,170,171,172,173,174,175,176,177,178,182,198,199,200,201,202,203,204,205,206,207,208,209,210,211,212,215,216,236,237,238,239,242,243,244,245,246,262,263,264,265,266,269,270,271,272,273,274,275,276,284,285,286,287,288,290,291,292]
theorem kA:kSl.all (callable pg)=true:=by kernel_rfl
theorem kC {f:FuncId} (h:kSl.contains f=true):callable pg f=true:=yo.1 kA f (List.elem_iff.1 h)
end
class Tab (P:Program) where
 F:Nat→Nat→Option Nat
 S:Nat→Option (Option Nat)
 fl:∀ t i o,F t i=some o→fldAt P t i=some (o,none)
 sh:∀ t k,S t=some k→zE P t=some k
def nthO {α:Type}:List (Option α)→Nat→Option α
 | x::_,0=>x
 | _::l,n+1=>nthO l n
 | [],_=>none
def assN {α:Type}:List (Nat×α)→Nat→Option α
 | (k,x)::l,t=>match Nat.beq k t with
  | true=>some x
  | false=>assN l t
 | [],_=>none
def tbF (l:List (Nat×List (Option Nat))) (t i:Nat):Option Nat:=match assN l t with
 | some r=>nthO r i
 | none=>none
theorem assN_mem {α:Type}:∀ {l:List (Nat×α)} {t:Nat} {x:α},assN l t=some x→(t,x)∈l
 | [],_,_,h=>by simp [assN] at h
 | (k,y)::l,t,x,h=>by
  rw [assN] at h;cases hk:Nat.beq k t with
  | true=>rw [hk] at h;cases h;rw [Nat.eq_of_beq_eq_true hk];simp
  | false=>rw [hk] at h;exact un _ (assN_mem h)
def rowB (P:Program) (t:Nat):List (Option Nat)→Nat→Bool
 | [],_=>true
 | none::l,i=>rowB P t l (i+1)
 | some o::l,i=>decide (fldAt P t i=some (o,none))&&rowB P t l (i+1)
theorem rowB_nth {P t o}:∀ {l:List (Option Nat)} {j i:Nat},rowB P t l j=true→nthO l i=some o→fldAt P t (j+i)=some (o,none)
 | [],_,_,_,h=>by simp [nthO] at h
 | x::l,j,0,hb,h=>by
  simp only [nthO] at h;subst h;simp only [rowB,yc,yd] at hb;exact hb.1
 | x::l,j,i+1,hb,h=>by
  simp only [nthO] at h;have hb':rowB P t l (j+1)=true:=by
   cases x with
   | none=>exact hb
   | some o=>simp only [rowB,yc] at hb;exact hb.2
  have:=rowB_nth hb' h
  rwa [Nat.add_assoc,Nat.add_comm 1 i] at this
abbrev Tab.mk' {P:Program} {F:Nat→Nat→Option Nat} {S:Nat→Option (Option Nat)} (f:List (Nat×List (Option Nat))) (s:List (Nat×Option Nat)) (hf:(f.all λp=>rowB P p.1 p.2 0)=true) (hs:(s.all λp=>decide (zE P p.1=some p.2))=true) (eF:F=tbF f) (eS:S=assN s):Tab P where
 F:=F
 S:=S
 fl:=λt i o h=>by
  rw [eF] at h;unfold tbF at h;cases ha:assN f t with
  | none=>rw [ha] at h;cases h
  | some r=>
   rw [ha] at h;have:=rowB_nth (yo.1 hf _ (assN_mem ha)) h
   rwa [uq] at this
 sh:=λt k h=>by
  rw [eS] at h;exact of_decide_eq_true (yo.1 hs _ (assN_mem h))
def slB (P:Program) (t k:Nat):Bool:=match P.underlying t with
 | some (.slice el)=>decide ((P.info? el).map (·.size)=some k)
 | _=>false
theorem slB_ok {P t k} (h:slB P t k=true):∃ el,P.underlying t=some (.slice el)∧(P.info? el).map (·.size)=some k:=by
 unfold slB at h;split at h
 ·exact ⟨_,‹_›,of_decide_eq_true h⟩
 ·cases h
def memN:List Nat→Nat→Bool
 | k::l,f=>match Nat.beq k f with
  | true=>true
  | false=>memN l f
 | [],_=>false
theorem memN_mem:∀ {l:List Nat} {f:Nat},memN l f=true→f∈l
 | [],_,h=>by simp [memN] at h
 | k::l,f,h=>by
  rw [memN] at h;cases hk:Nat.beq k f with
  | true=>rw [Nat.eq_of_beq_eq_true hk];simp
  | false=>rw [hk] at h;exact un _ (memN_mem h)
theorem slAll {P l} (hl:(l.all λp=>slB P p.1 p.2)=true) {t k} (h:assN l t=some k):∃ el,P.underlying t=some (.slice el)∧(P.info? el).map (·.size)=some k:=slB_ok (yo.1 hl _ (assN_mem h))
theorem clAll {P l} (hl:l.all (callable P)=true) {f} (h:memN l f=true):callable P f=true:=yo.1 hl f (memN_mem h)
def nthD:List D→Nat→Option D
 | x::_,0=>some x
 | _::l,n+1=>nthD l n
 | [],_=>none
theorem nthD_get:∀ {l:List D} {i:Nat} {y:D},nthD l i=some y→l[i]? = some y
 | [],_,_,h=>by simp [nthD] at h
 | x::l,0,y,h=>by simpa [nthD] using h
 | x::l,i+1,y,h=>by rw [List.getElem?_cons_succ];exact nthD_get h
def lenIs:List D→Nat→Bool
 | [],0=>true
 | _::l,n+1=>lenIs l n
 | _,_=>false
theorem lenIs_len:∀ {l:List D} {n:Nat},lenIs l n=true→l.length=n
 | [],0,_=>rfl
 | _::l,n+1,h=>by rw [yJ,lenIs_len (l:=l) h]
 | [],_+1,h=>by simp [lenIs] at h
 | _::_,0,h=>by simp [lenIs] at h
def shapeIs (d:D) (k:Option Nat):Bool:=match d with
 | .agg cs=>match k with
  | some n=>lenIs cs n
  | none=>false
 | .val v=>match v with
  | .agg _=>false
  | _=>k.isNone
 | _=>k.isNone
theorem shapeIs_eq {d k} (h:shapeIs d k=true):d.shape=k:=by
 cases d with
 | agg cs=>
  cases k with
  | none=>cases h
  | some n=>exact congrArg some (lenIs_len h)
 | val v=>cases v <;> cases k <;> first | rfl | cases h
 | _=>cases k <;> first | rfl | cases h
def vBin (op:BinOp) (x y:Option V):Option V:=match x,y with
 | some (.d (.val (.int k a))),some (.d (.val (.int k' b)))=>match decide (k=k') with
  | true=>match op with
   | .lss=>some (.d (.bool (decide (a<b))))
   | .leq=>some (.d (.bool (decide (a≤b))))
   | .gtr=>some (.d (.bool (decide (b<a))))
   | .geq=>some (.d (.bool (decide (b≤a))))
   | .eql=>some (.d (.bool (a==b)))
   | .neq=>some (.d (.bool (a != b)))
   | .add=>match k with
    | .i64=>some (.d (.int (add64 a b)))
    | _=>none
   | .sub=>match k with
    | .i64=>some (.d (.int (sub64 a b)))
    | _=>none
   | .mul=>match k with
    | .i64=>some (.d (.int (mul64 a b)))
    | _=>none
   | _=>none
  | false=>none
 | _,_=>none
def vOp (F:Nat→Nat→Option Nat) (S:Nat→Option (Option Nat)) (e:Operand→Option V):Op→Option V
 | .move x=>e x
 | .assign x=>e x
 | .box _ x=>match e x with
  | some (.d d)=>some (.d (.ref d))
  | _=>none
 | .unOp .not _ x=>match e x with
  | some (.d (.val (.bool b)))=>some (.d (.bool (!b)))
  | _=>none
 | .binOp op _ x y _=>vBin op (e x) (e y)
 | .fieldAddr t x i=>match e x with
  | some (.d (.ref (.agg cs)))=>match F t i with
   | some o=>match nthD cs o with
    | some y=>match shapeIs y none with
     | true=>some (.d (.ref y))
     | false=>none
    | none=>none
   | none=>none
  | _=>none
 | .load t x=>match e x with
  | some (.d (.ref d))=>match S t with
   | some k=>match shapeIs d k with
    | true=>some (.d d)
    | false=>none
   | none=>none
  | _=>none
 | _=>none
section
variable [Globs] [Drw] {P:Program} [Tab P] {o:Oper} {e:Operand→Option V} {H:List Blk} {v:V}
theorem vBin_ok {op:BinOp} {t u x y} (ho:o.op = .binOp op t x y u) (h:vBin op (e x) (e y)=some v):OpV P o e H v:=by
 unfold vBin at h;split at h
 ·rename_i k a k' b hx hy;split at h
  ·rename_i hk;have hk:=of_decide_eq_true hk;subst hk;split at h
   ·cases h;exact .lss ho hx hy
   ·cases h;exact .leq ho hx hy
   ·cases h;exact .gtr ho hx hy
   ·cases h;exact .geq ho hx hy
   ·cases h;exact .eql ho hx hy
   ·cases h;exact .neq ho hx hy
   ·split at h
    ·cases h;exact .add6 ho hx hy
    ·cases h
   ·split at h
    ·cases h;exact .sub6 ho hx hy
    ·cases h
   ·split at h
    ·cases h;exact .mul6 ho hx hy
    ·cases h
   ·cases h
  ·cases h
 ·cases h
theorem vOp_ok (h:vOp (Tab.F P) (Tab.S P) e o.op=some v):OpV P o e H v:=by
 unfold vOp at h;split at h
 ·exact .move ‹_› h
 ·exact .assign ‹_› h
 ·split at h
  ·cases h;exact .box ‹_› ‹_›
  ·cases h
 ·split at h
  ·cases h;exact .not ‹_› ‹_›
  ·cases h
 ·exact vBin_ok ‹_› h
 ·split at h
  ·split at h
   ·split at h
    ·split at h
     ·cases h;exact .fieldAddr ‹o.op=_› ‹e _=_› (Fld.of (Tab.fl _ _ _ ‹Tab.F P _ _=_›) (shapeIs_eq ‹shapeIs _ _=_›) (nthD_get ‹nthD _ _=_›))
     ·cases h
    ·cases h
   ·cases h
  ·cases h
 ·split at h
  ·split at h
   ·split at h
    ·cases h;exact .load ‹o.op=_› ‹e _=_› (Tab.sh _ _ ‹Tab.S P _=_›) (shapeIs_eq ‹shapeIs _ _=_›)
    ·cases h
   ·cases h
  ·cases h
 ·cases h
theorem vOp_spec (h:vOp (Tab.F P) (Tab.S P) e o.op=some v):z0 o=false:=by
 unfold z0;cases ho:o.op <;> first | rfl | (rw [ho] at h;simp [vOp] at h)
end
def runA (F:Nat→Nat→Option Nat) (S:Nat→Option (Option Nat)) (N:Nat):Nat→List Oper→List (Nat×V)→Option (List Oper×List (Nat×V))
 | 0,l,T=>some (l,T)
 | n+1,o::l,T=>match o.guard,o.dst with
  | none,some d=>match Nat.blt d N with
   | true=>match vOp F S (ev T) o.op with
    | some v=>runA F S N n l ((d,v)::T)
    | none=>none
   | false=>none
  | _,_=>none
 | _+1,[],_=>none
def sameB:Bool→Bool→Bool
 | true,true=>true
 | false,false=>true
 | _,_=>false
def runQ (F:Nat→Nat→Option Nat) (S:Nat→Option (Option Nat)) (N:Nat) (ops:Array Oper):Nat→List Oper→List (Nat×V)→Option (List Oper×List (Nat×V))
 | 0,l,T=>some (l,T)
 | n+1,o::l,T=>match o.dst with
  | some d=>match Nat.blt d N with
   | true=>match vOp F S (ev T) o.op with
    | some v=>match o.guard with
     | none=>runQ F S N ops n l ((d,v)::T)
     | some (j,w)=>match (ops[j]?).bind (·.dst) with
      | some g=>match look g T with
       | some (.d (.val (.bool b)))=>match sameB b w with
        | true=>runQ F S N ops n l ((d,v)::T)
        | false=>none
       | _=>none
      | none=>none
    | none=>none
   | false=>none
  | none=>none
 | _+1,[],_=>none
section
variable [Globs] [Drw] {P:Program} [Tab P] {C:Ctx} {ops:Array Oper} {Q:Exit→St→Prop}
theorem runA_ok {H rest T'} (k:TriL P C ops rest Q ⟨T',H⟩):∀ (n:Nat) (l:List Oper) (T:List (Nat×V)),runA (Tab.F P) (Tab.S P) C.n n l T=some (rest,T')→TriL P C ops l Q ⟨T,H⟩
 | 0,l,T,h=>by cases h;exact k
 | n+1,[],T,h=>by cases h
 | n+1,o::l,T,h=>by
  rw [runA] at h;split at h
  ·split at h
   ·split at h
    ·have hd:=‹o.dst=_›;refine .op ‹o.guard=_› (by rw [hd];exact ‹Nat.blt _ _=_›) (vOp_ok ‹vOp _ _ _ _=_›) ?_;rw [hd];exact runA_ok k n l _ h
    ·cases h
   ·cases h
  ·cases h
theorem sameB_eq:∀ {a b:Bool},sameB a b=true→a=b
 | true,true,_=>rfl
 | false,false,_=>rfl
theorem runQ_ok {N H al} {K:List Ev→List (Nat×V)→Prop} {rest T'} (k:TriQ P N ops H rest al T' K):∀ (n:Nat) (l:List Oper) (T:List (Nat×V)),runQ (Tab.F P) (Tab.S P) N ops n l T=some (rest,T')→TriQ P N ops H l al T K
 | 0,l,T,h=>by cases h;exact k
 | n+1,[],T,h=>by cases h
 | n+1,o::l,T,h=>by
  rw [runQ] at h;split at h
  ·split at h
   ·split at h
    ·split at h
     ·exact .op ‹o.guard=_› ‹o.dst=_› ‹Nat.blt _ _=_› (vOp_spec ‹vOp _ _ _ _=_›) (vOp_ok ‹vOp _ _ _ _=_›) (runQ_ok k n l _ h)
     ·split at h
      ·split at h
       ·split at h
        ·have hs:=sameB_eq ‹sameB _ _=_›;exact .gop ‹o.guard=_› ‹Option.bind _ _=_› (by rw [← hs];exact ‹look _ _=_›) ‹o.dst=_› ‹Nat.blt _ _=_› (vOp_spec ‹vOp _ _ _ _=_›) (vOp_ok ‹vOp _ _ _ _=_›) (runQ_ok k n l _ h)
        ·cases h
       ·cases h
      ·cases h
    ·cases h
   ·cases h
  ·cases h
end
def pickK:List Nat→List (Nat×V)→List (Nat×V)→Option (List (Nat×V))
 | [],_,acc=>some acc
 | k::ks,T,acc=>match look k T with
  | some v=>pickK ks T ((k,v)::acc)
  | none=>none
theorem zh1 {T}:∀ {ks:List Nat} {acc K:List (Nat×V)},pickK ks T acc=some K→Sub acc T→Sub K T
 | [],acc,K,h,hs=>by cases h;exact hs
 | k::ks,acc,K,h,hs=>by
  rw [pickK] at h;cases hl:look k T with
  | none=>rw [hl] at h;cases h
  | some v=>rw [hl] at h;exact zh1 h ⟨hl,hs⟩
def revB {β:Type}:List Blk→List Blk→(List Blk→β)→β
 | [],acc,k=>k acc
 | b::l,acc,k=>revB l (b::acc) k
theorem revB_eq {β:Type}:∀ (l acc:List Blk) (k:List Blk→β),revB l acc k=k (l.reverse++acc)
 | [],acc,k=>by simp [revB]
 | b::l,acc,k=>by rw [revB,revB_eq l];simp
def keepK (ks:List Nat) (s:St):Option (List (Nat×V)×List Blk):=match pickK ks s.T [] with
 | some K=>revB s.H [] λr=>revB r [] λH=>some (K,H)
 | none=>none
section
variable [Globs] [Drw] {P:Program} {C:Ctx} {Q:Exit→St→Prop}
theorem Tri.K (ks) {c s K H} (h:keepK ks s=some (K,H)) (k:Tri P C c Q ⟨K,H⟩):Tri P C c Q s:=by
 unfold keepK at h;cases hp:pickK ks s.T [] with
 | none=>rw [hp] at h;cases h
 | some K'=>
  rw [hp] at h;simp only [revB_eq,ur,List.reverse_reverse,yh,yx] at h;obtain ⟨rfl,rfl⟩:=h;exact Tri.le (s:=s) (t:=⟨K',s.H⟩) ⟨rfl,zh1 hp trivial⟩ k
theorem Looks.of {T}:∀ (ks:List Nat) (K0:List (Nat×V)),Sub K0 T→(K0.map (·.1))=ks→Looks T ks K0
 | _,[],_,rfl=>.nil
 | _,(k,v)::K,h,rfl=>.cons h.1 (Looks.of _ K h.2 rfl)
def lks:List (Nat×V)→List (Nat×V)→List (Option V)
 | [],_=>[]
 | (k,_)::l,T=>look k T::lks l T
def vls:List (Nat×V)→List (Option V)
 | []=>[]
 | (_,v)::l=>some v::vls l
theorem lks_sub {T}:∀ {l:List (Nat×V)},lks l T=vls l→Sub l T
 | [],_=>trivial
 | (k,v)::l,h=>by
  simp only [lks,vls,List.cons.injEq] at h;exact ⟨h.1,lks_sub h.2⟩
theorem gE {s t:St} {X:List Blk} (h:(s.H,t.H.all (Blk.under t.H.length),t.T.all λp=>p.2.under t.H.length,lks t.T s.T)=(t.H++X,true,true,vls t.T)):s.ge t:=by
 simp only [yx] at h;exact ⟨X,h.1,h.2.1,h.2.2.1,lks_sub h.2.2.2⟩
theorem ndE {σ R:Type} {k:σ→Option R} {r:R} {J:σ→St} {s:St} {v:σ} {X:List Blk} (h:k v=some r) (g:(s.H,(J v).H.all (Blk.under (J v).H.length),(J v).T.all λp=>p.2.under (J v).H.length,lks (J v).T s.T)=((J v).H++X,true,true,vls (J v).T)):∃ v,k v=some r∧s.ge (J v):=⟨v,h,gE g⟩
theorem Tri.L {σ R:Type} {c} {body:(σ→Option R)→σ→Option R} {n:Nat} {init:σ} {r:R} {s} (ks:List Nat) {K X} (h:loopF body n init=some r) (upd:σ→List (Nat×V)) (hf:σ→List (Nat×Blk))
  (g:(pickK ks s.T [],s.H,(over s.H (hf init)).all (Blk.under (over s.H (hf init)).length),(upd init++K).all λp=>p.2.under (over s.H (hf init)).length,lks (upd init++K) s.T,Nat.ble C.gn s.H.length)=(some K,over s.H (hf init)++X,true,true,vls (upd init++K),true))
  (hb:∀ (rec:σ→Option R) (v:σ),body rec v=some r→Tri P C c (joinQ rec r (λv=>⟨upd v++K,over s.H (hf v)⟩) Q) ⟨upd v++K,over s.H (hf v)⟩):Tri P C (.loop c) Q s:=by
 simp only [yx] at g;obtain ⟨g1,g2,g3,g4,g5,g6⟩:=g;exact .loopS (K.map (·.1)) upd hf (Looks.of _ K (zh1 g1 trivial) rfl) h ⟨X,g2,g3,g4,lks_sub g5⟩ hb g6
theorem Tri.J {σ R:Type} {x y} {k:σ→Option R} {m:(σ→Option R)→Option R} {r:R} {s} (ks:List Nat) {K} (h:jn k m=some r) (upd:σ→List (Nat×V)) (hf:σ→List (Nat×Blk)) (g:(pickK ks s.T [],Nat.ble C.gn s.H.length)=(some K,true))
  (hm:∀ k':σ→Option R,m k'=some r→Tri P C x (joinQ k' r (λv=>⟨upd v++K,over s.H (hf v)⟩) Q) s)
  (hk:∀ v,k v=some r→Tri P C y Q ⟨upd v++K,over s.H (hf v)⟩):Tri P C (.seq x y) Q s:=by
 simp only [yx] at g;exact .join (K.map (·.1)) upd hf (Looks.of _ K (zh1 g.1 trivial) rfl) h hm hk g.2
end
section
variable [Env] [Drw]
def tFl:List (Nat×List (Option Nat)):=[(30,[some 0,some 1,some 2,some 3,some 4,some 5,some 6]),(32,[some 0,some 1]),(34,[some 0,some 1]),(36,[none,some 4]),(60,[some 0,some 1,some 2]),(62,[some 0,some 1]),(69,[some 0,some 1]),(74,[some 0,some 1,none,some 4,some 5]),(77,[some 0,some 1]),(85,[some 0,some 1]),(106,[some 0,some 1,some 2]),(111,[some 0]),(119,[some 0,some 1,some 2,none,some 5]),(123,[some 0,none,some 2]),(125,[some 0,some 1]),(132,[some 0,some 1]),(153,[some 0,some 1,some 2]),(156,[none,some 7]),(184,[some 0,some 1,some 2]),(204,[none,some 7,some 8]),(218,[some 0,some 1]),(227,[some 0,none,some 2,some 3])]
def tSl:List (Nat×Option Nat):=[(3,none),(4,none),(5,none),(9,none),(22,none),(23,none),(24,none),(25,none),(26,none),(27,none),(28,none),(30,some 7),(34,some 4),(36,some 5),(56,none),(57,none),(58,none),(60,some 3),(62,some 5),(67,none),(69,some 2),(74,some 6),(77,some 2),(82,none),(85,some 2),(106,some 3),(108,none),(111,some 2),(119,some 6),(123,some 3),(125,some 2),(153,some 3),(156,some 8),(184,some 3),(188,none),(196,none),(202,none),(218,some 2)]
def tXl:List (Nat×Nat):=[(22,1),(23,6),(24,1),(25,6),(26,3),(27,5),(28,3),(56,2),(57,2),(58,3),(67,2),(82,2),(108,1),(140,1),(142,1),(223,4)]
def tX:Nat→Option Nat:=assN tXl
def tCl:List Nat:=[9,10,11,12,13,14,15,16,17,18,19,20,21,22,23,24,25,26,27,28,29,30,31,32,33,34,35,36,37,38,39,40,41,42,43,44,45,46,47,48,49,50,51,52,53,54,55,56,57,58,59,60,61,62,63,64,65,66,67,68,69,70,71,72,73,74,75,76,77,78,79,80,81,82,83,84,85,86,87,88,89,90,91,92,93,94,95,96,97,98,99,100,101,102,103,104,105,107,108,109,110,111,112,113,114,115,116,117,118,119,120,121,122,123,124,125,126,127,128,129,130,131,132,133,134,135,136,137,138,139,140,142,143,148,149,150,151,152,153,154,155,156,157,158,159,160,161,162,163,164,165,166,167,168,169,170,171,172,173,174,175,176,177,178,182,198,199,200,201,202,203,204,205,206,207,208,209,210,211,212,215,216,236,237,238,239,242,243,244,245,246,262,263,264,265,266,267,269,270,271,272,273,274,275,276,284,285,286,287,288,290,291,292]
def tF:Nat→Nat→Option Nat:=tbF tFl
def tS:Nat→Option (Option Nat):=assN tSl
instance tabI:Tab Tryz.prog:=.mk' (F:=tF) (S:=tS) tFl tSl (by kernel_rfl) (by kernel_rfl) rfl rfl
section
variable {C:Ctx} {ops:Array Oper} {Q:Exit→St→Prop} {l rest:List Oper} {T':List (Nat×V)} {s:St} {id:Nat}
theorem TriL.A (n:Nat) (h:runA tF tS C.n n l s.T=some (rest,T')) (k:TriL Tryz.prog C ops rest Q ⟨T',s.H⟩):TriL Tryz.prog C ops l Q s:=runA_ok k n l s.T h
theorem Tri.sA (n:Nat) {y:Code} (h:runA tF tS C.n n l s.T=some ([],T')) (k:Tri Tryz.prog C y Q ⟨T',s.H⟩):Tri Tryz.prog C (.seq (.region id l.toArray false) y) Q s:=.sr (.A n h (.nil k))
theorem Tri.S (n:Nat) {y:Code} (h:runA tF tS C.n n l s.T=some (rest,T')) (k:TriL Tryz.prog C l.toArray rest (thenQ (Tri Tryz.prog C y Q) Q) ⟨T',s.H⟩):Tri Tryz.prog C (.seq (.region id l.toArray false) y) Q s:=.sr (.A n h k)
theorem Tri.rA (n:Nat) (h:runA tF tS C.n n l s.T=some ([],T')) (k:Q .normal ⟨T',s.H⟩):Tri Tryz.prog C (.region id l.toArray false) Q s:=.region (.A n h (.nil k))
theorem TriQ.A (n:Nat) {N:Nat} {H:List Blk} {al:List Ev} {K:List Ev→List (Nat×V)→Prop} {T:List (Nat×V)} (h:runQ tF tS N ops n l T=some (rest,T')) (k:TriQ Tryz.prog N ops H rest al T' K):TriQ Tryz.prog N ops H l al T K:=runQ_ok k n l T h
end
theorem tX_all:(tXl.all λp=>slB Tryz.prog p.1 p.2)=true:=by kernel_rfl
theorem tX_ok {t k:Nat} (h:tX t=some k):∃ el,Tryz.prog.underlying t=some (.slice el)∧(Tryz.prog.info? el).map (·.size)=some k:=slAll tX_all h
theorem tC_all:tCl.all (callable Tryz.prog)=true:=by kernel_rfl
theorem tC_ok {f:FuncId} (h:memN tCl f=true):callable Tryz.prog f=true:=clAll tC_all h
section
variable {C:Ctx} {ops:Array Oper} {Q:Exit→St→Prop} {o:Oper} {rest:List Oper} {s:St} {α β R:Type} {r:R}
theorem TriL.X {l:List α} {enc:α→D} {a:Int} {k:α→Option R} {x i:Operand} {t:TypeId} {kk:Nat} (h:(idx l a).bind k=some r) (g:(o.guard,dstOK o.dst C.n,o.op,ev s.T x,ev s.T i,tX t)=(none,true,.indexAddr t x i,some (.d (.sl kk (l.map enc))),some (.d (.int a)),some kk))
  (f:∀ v,k v=some r→TriL Tryz.prog C ops rest Q (s.put o.dst (.d (.ref (enc v))))):TriL Tryz.prog C ops (o::rest) Q s:=by
 simp only [yx] at g
 obtain ⟨g1,g2,g3,g4,g5,g6⟩:=g
 obtain ⟨v,hv,hk⟩:=bindS h
 obtain ⟨el,u1,u2⟩:=tX_ok g6
 exact .op g1 g2 (.idx g3 g4 g5 u1 u2 hv) (f v hk)
theorem TriL.Z {m:Option β} {k:β→Option R} {enc:β→D} {f:FuncId} {args:Array Operand} {tys:Array TypeId} {xs:List D} (h:m.bind k=some r) (g:(o.guard,dstOK o.dst C.n,o.op,memN tCl f,evs (ev s.T) args.toList)=(none,true,.call { callee:=.value (.func f),args:=args,argTypes:=tys },true,some xs))
  (hp:∀ v,m=some v→Pure Tryz.prog f xs (enc v)) (c:∀ v,k v=some r→TriL Tryz.prog C ops rest Q (s.put o.dst (.d (enc v)))):TriL Tryz.prog C ops (o::rest) Q s:=by
 simp only [yx] at g
 obtain ⟨g1,g2,g3,g4,g5⟩:=g
 obtain ⟨v,hv,hk⟩:=bindS h
 exact .op g1 g2 (.call g3 (tC_ok g4) g5 (hp v hv)) (c v hk)
variable {N d:Nat} {H:List Blk} {al:List Ev} {K:List Ev→List (Nat×V)→Prop} {T:List (Nat×V)}
theorem TriQ.X {l:List α} {enc:α→D} {a:Int} {k:α→Option R} {x i:Operand} {t:TypeId} {kk:Nat} (h:(idx l a).bind k=some r) (g:(o.guard,o.dst,Nat.blt d N,z0 o,o.op,ev T x,ev T i,tX t)=(none,some d,true,false,.indexAddr t x i,some (.d (.sl kk (l.map enc))),some (.d (.int a)),some kk))
  (f:∀ v,k v=some r→TriQ Tryz.prog N ops H rest al ((d,.d (.ref (enc v)))::T) K):TriQ Tryz.prog N ops H (o::rest) al T K:=by
 simp only [yx] at g
 obtain ⟨g1,g2,g2',g2'',g3,g4,g5,g6⟩:=g
 obtain ⟨v,hv,hk⟩:=bindS h
 obtain ⟨el,u1,u2⟩:=tX_ok g6
 exact .op g1 g2 g2' g2'' (.idx g3 g4 g5 u1 u2 hv) (f v hk)
theorem TriQ.Z {m:Option β} {k:β→Option R} {enc:β→D} {f:FuncId} {args:Array Operand} {tys:Array TypeId} {xs:List D} (h:m.bind k=some r) (g:(o.guard,o.dst,Nat.blt d N,z0 o,o.op,memN tCl f,evs (ev T) args.toList)=(none,some d,true,false,.call { callee:=.value (.func f),args:=args,argTypes:=tys },true,some xs))
  (hp:∀ v,m=some v→Pure Tryz.prog f xs (enc v)) (c:∀ v,k v=some r→TriQ Tryz.prog N ops H rest al ((d,.d (enc v))::T) K):TriQ Tryz.prog N ops H (o::rest) al T K:=by
 simp only [yx] at g
 obtain ⟨g1,g2,g2',g2'',g3,g4,g5⟩:=g
 obtain ⟨v,hv,hk⟩:=bindS h
 exact .op g1 g2 g2' g2'' (.call g3 (tC_ok g4) g5 (hp v hv)) (c v hk)
end
end
end Go.Proofs.YtbnhmfnagdgcmaaGreatDoor
