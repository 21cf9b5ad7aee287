/- Part of the proof of one law of the seat. -/
import Derived.Test.YtehefbidnkfciaaGreatDoorGq02
import Derived.Deep.Slices
import Derived.WideKeyArgs
import Derived.OpenShut
import Derived.Test.YtehefbidnkfciaaGreatDoorRows
import Derived.Lib.LaidTab
import Derived.Lib.LaidU8
import Derived.Stop.LaidErr
import Derived.MakeChecks
import Derived.Test.YtehefbidnkfciaaGreatDoorProg
import Derived.KernelRfl
import Derived.OrdersIn
import Derived.RangeFuncIn
import Derived.RangeFuncRecord
import Derived.RangeFuncCalls
import Derived.RangeFuncLeaves
import Derived.TacticsIn
import Derived.WalkKit
import Derived.TacticsInMore
import Derived.BigFrameIn
import Derived.OwnWalkIn
set_option linter.unusedVariables false
set_option linter.unusedSectionVars false
set_option linter.unusedSimpArgs false
set_option maxHeartbeats 4000000
namespace Go.Proofs.YtehefbidnkfciaaGreatDoor
open Go Go.RowKit
section
def Noneof:Nat→Prop:=λ_=>False
structure Dec (P:Program) (t:TypeId) (α:Type) where
 k:Nat
 pos:0<k
 cells:P.cellsOf t=k
 flat:α→List D
 el:α→D
 good:α→Prop
 opens:∀ {H:Type} {enc:TypeId×Value→H} {w:World} {sp:Nat→Bool} {held:Bool} {fuel:Nat} {cs:List Value} {x:DataW H×List MemPlace},DataW.trod enc P w 0 sp held fuel t cs=some x→∃ a,D.reps Noneof w (flat a) cs∧good a
 elOK:∀ {w:World} {a:α} {cs:List Value},D.reps Noneof w (flat a) cs→∃ u,D.rep Noneof w (el a) u∧u.cells.toList=cs
 arg:∀ {w:World} {r:Reach} {base:Nat} {v:Value} {a:α},Value.okWide P w r base t v→D.reps Noneof w (flat a) v.cells.toList→D.rep Noneof w (el a) v
theorem zgP {A w d v} (h:D.rep A w d v):D.reps A w [d] [v]:=by
 simp only [D.reps];exact ⟨v,[],rfl,h,rfl⟩
theorem zcn {A w d cs} (h:D.reps A w [d] cs):∃ v,cs=[v]∧D.rep A w d v:=by
 simp only [D.reps] at h;obtain ⟨v,vs,rfl,h1,rfl⟩:=h;exact ⟨v,rfl,h1⟩
theorem znR {A w}:∀ {xs ys:List D} {vs us:List Value},D.reps A w xs vs→D.reps A w ys us→D.reps A w (xs++ys) (vs++us)
 | [],ys,vs,us,h,k=>by simp only [D.reps] at h;subst h;exact k
 | x::xs,ys,vs,us,h,k=>by
  simp only [D.reps] at h;obtain ⟨v,vs',rfl,h1,h2⟩:=h;simp only [ud,D.reps];exact ⟨v,vs'++us,rfl,h1,znR h2 k⟩
variable {P:Program}
theorem zo3 {n:Int} (h:(Lit.int .i64 n).wf=true) : -9223372036854775808≤n∧n≤9223372036854775807:=by
 have e1:IntKind.min .i64 = -9223372036854775808:=by decide
 have e2:IntKind.max .i64=9223372036854775807:=by decide
 simp only [Lit.wf,yc,ye,e1,e2] at h;exact h
def zr5 {t:TypeId} (ht:P.underlying t=some (.int .i64)) (hc:P.cellsOf t=1):Dec P t Int where
 k:=1
 pos:=by decide
 cells:=hc
 flat n:=[.int n]
 el n:=.int n
 good n:=-9223372036854775808≤n∧n≤9223372036854775807
 opens h:=by
  obtain ⟨n,rfl,-,hr⟩:=DataW.trod_int ht h;exact ⟨n,zgP (by simp only [D.rep]),zo3 hr⟩
 elOK {w a cs} h:=by
  obtain ⟨v,rfl,h1⟩:=zcn h;simp only [D.rep] at h1;subst h1;exact ⟨.int .i64 a,by simp only [D.rep],rfl⟩
 arg hv h:=by
  obtain ⟨n,rfl⟩:=WideShapes.okWide_int ht hv;obtain ⟨v,hv',h1⟩:=zcn h;obtain rfl:=List.head_eq_of_cons_eq hv';exact h1
def zqS {t:TypeId} (ht:P.underlying t=some .bool) (hc:P.cellsOf t=1):Dec P t Bool where
 k:=1
 pos:=by decide
 cells:=hc
 flat n:=[.bool n]
 el n:=.bool n
 good _:=True
 opens h:=by
  obtain ⟨n,rfl,-⟩:=DataW.trod_bool ht h;exact ⟨n,zgP (by simp only [D.rep]),trivial⟩
 elOK {w a cs} h:=by
  obtain ⟨v,rfl,h1⟩:=zcn h;simp only [D.rep] at h1;subst h1;exact ⟨.bool a,by simp only [D.rep],rfl⟩
 arg hv h:=by
  obtain ⟨n,rfl⟩:=WideShapes.okWide_bool ht hv;obtain ⟨v,hv',h1⟩:=zcn h;obtain rfl:=List.head_eq_of_cons_eq hv';exact h1
def zr6 {t:TypeId} (ht:P.underlying t=some .string) (hc:P.cellsOf t=1):Dec P t (List UInt8) where
 k:=1
 pos:=by decide
 cells:=hc
 flat s:=[.str s]
 el s:=.str s
 good _:=True
 opens h:=by
  obtain ⟨s,rfl,-,-⟩:=DataW.trod_string ht h;exact ⟨s.data.toList,zgP (by simp only [D.rep]),trivial⟩
 elOK {w a cs} h:=by
  obtain ⟨v,rfl,h1⟩:=zcn h;simp only [D.rep] at h1;subst h1;exact ⟨.string ⟨a.toArray⟩,by simp only [D.rep],rfl⟩
 arg hv h:=by
  obtain ⟨n,rfl⟩:=WideShapes.okWide_string ht hv;obtain ⟨v,hv',h1⟩:=zcn h;obtain rfl:=List.head_eq_of_cons_eq hv';exact h1
theorem zi3 {α:Type} {t e:TypeId} (d:Dec P e α) {H:Type} {enc:TypeId×Value→H} {w:World} {sp:Nat→Bool} {held:Bool} {n:Nat} {b off:Nat}:∀ (m:Nat) (DD:Nat→DataW H) (Pl:Nat→List MemPlace) (o:Nat),
  (∀ i,i<m→∃ cs',w.cells? 0 ((⟨b,off,none⟩:Addr).add ((o+i)*P.cellsOf e)) (P.cellsOf e)=some cs'∧DataW.trod enc P w 0 sp held n e cs'=some (DD i,Pl i))→∃ l:List α,(l.length=m∧∀ x∈l,d.good x)∧D.row Noneof w b d.k (l.map d.el) (off+o*d.k)
 | 0,_,_,_,_=>⟨[],⟨rfl,by simp⟩,by simp only [List.map_nil,D.row]⟩
 | m+1,DD,Pl,o,h=>by
  obtain ⟨cs',h1,h2⟩:=h 0 (by omega);obtain ⟨a,ha,hg⟩:=d.opens h2;obtain ⟨u,hu1,hu2⟩:=d.elOK ha;obtain ⟨l,⟨hl1,hlg⟩,hl2⟩:=zi3 (t:=t) d m (λi=>DD (i+1)) (λi=>Pl (i+1)) (o+1) (λi hi=>by
   have:=h (i+1) (by omega)
   rwa [show o+(i+1)=o+1+i by omega] at this)
  refine ⟨a::l,⟨by simp [hl1],λx hx=>by
   rcases yD.1 hx with rfl | hx
   ·exact hg
   ·exact hlg x hx⟩,?_⟩
  simp only [yI,D.row];obtain ⟨-,c2,c3⟩:=World.cells?_some h1;have hsz:u.cells.size=d.k:=by rw [← yw,hu2,c2,d.cells]
  refine ⟨⟨u,hu1,λj hj=>?_,hsz⟩,?_⟩
  ·have:=c3 j (by rw [d.cells];omega);rw [ul,d.cells,Deep.add_add] at this;have hadd:(⟨b,off,none⟩:Addr).add (o*d.k+j)=⟨b,off+o*d.k+j,none⟩:=by
    unfold Addr.add;by_cases h0:o*d.k+j=0
    ·rw [if_pos h0];congr 1;omega
    ·rw [if_neg h0];show (⟨b,off+(o*d.k+j),none⟩:Addr)=_;congr 1;omega
   rw [hadd] at this;rw [this,← hu2,yV]
  ·rw [show off+(o+1)*d.k=off+o*d.k+d.k by rw [uB];omega] at hl2;exact hl2
def decSl {α:Type} {t e:TypeId} (d:Dec P e α) (ht:P.underlying t=some (.slice e)) (hc:P.cellsOf t=1):Dec P t (List α) where
 k:=1
 pos:=by decide
 cells:=hc
 flat l:=[.sl d.k (l.map d.el)]
 el l:=.sl d.k (l.map d.el)
 good l:=∀ x∈l,d.good x
 opens {H enc w sp held fuel cs x} h:=by
  rcases Deep.open_slice ht h with ⟨rfl,-⟩ | ⟨a,len,cap,m,n,DD,Pl,rfl,-,hl,-,hm,-,hx⟩
  ·exact ⟨[],zgP (by simp only [List.map_nil,D.rep,uA];exact ⟨none,0,rfl,yn _,.inl trivial⟩),by simp⟩
  ·have hlm:len≤m:=by rw [hm];split <;> omega
   cases len with
   | zero=>exact ⟨[],zgP (by simp only [List.map_nil,D.rep,uA];exact ⟨_,cap,rfl,yp _,.inl trivial⟩),by simp⟩
   | succ len=>
    obtain ⟨cs',h1,h2⟩:=hx 0 (by omega);obtain ⟨-,c2,c3⟩:=World.cells?_some h1;have hp:=d.pos;have h0:=c3 0 (by rw [d.cells];omega);rw [Nat.zero_mul] at h0;have ha:(a.add 0).add 0=a:=by simp [Addr.add]
    rw [ha] at h0;have hsome:∃ v,w.cell? a=some v:=by
     rw [h0];exact ⟨_,yo (show 0<cs'.length by rw [c2,d.cells];omega)⟩
    obtain ⟨v,hv⟩:=hsome;obtain ⟨b,off,sp'⟩:=a;have hsp:sp'=none:=by
     unfold World.cell? at hv;simp only [] at hv;split at hv
     ·cases sp' with
      | none=>rfl
      | some z=>simp at hv
     ·cases hv
    subst hsp;have hb:b<w.heap.size:=by
     unfold World.cell? at hv;simp only [] at hv;split at hv
     ·rename_i hh;exact (ym.1 hh).1
     ·cases hv
    obtain ⟨l,⟨l1,lg⟩,l2⟩:=zi3 (t:=t) d (b:=b) (off:=off) (len+1) DD Pl 0 (λi hi=>by
     obtain ⟨cs2,q1,q2⟩:=hx i (by omega);exact ⟨cs2,by rw [um];exact q1,q2⟩)
    refine ⟨l,zgP ?_,lg⟩;simp only [D.rep];refine ⟨_,cap,by rw [yH,l1],by rw [yH,l1];exact hl,.inr ⟨b,off,rfl,λhf=>hf,hb,?_⟩⟩;simpa using l2
 elOK h:=by
  obtain ⟨v,rfl,h1⟩:=zcn h;refine ⟨v,h1,?_⟩;simp only [D.rep] at h1;obtain ⟨a,cap,rfl,-⟩:=h1;rfl
 arg hv h:=by
  obtain ⟨b,len,cap,rfl⟩:=WideShapes.okWide_slice ht hv;obtain ⟨v,hv',h1⟩:=zcn h;obtain rfl:=List.head_eq_of_cons_eq hv';exact h1
structure DecF (P:Program) (off:Nat) (fs:List Field) (α:Type) where
 k:Nat
 flat:α→List D
 good:α→Prop
 opens:∀ {H:Type} {enc:TypeId×Value→H} {w:World} {sp:Nat→Bool} {held:Bool} {fuel:Nat} {cs:List Value},cs.length=off+k →
  (∀ f∈fs,∃ x:DataW H×List MemPlace,DataW.trod enc P w 0 sp held fuel f.type ((cs.drop f.offset).take (P.cellsOf f.type))=some x)→∃ a,D.reps Noneof w (flat a) (cs.drop off)∧good a
def fNil {off:Nat}:DecF P off [] Unit where
 k:=0
 flat _:=[]
 good _:=True
 opens hl _:=⟨(),by rw [List.drop_of_length_le (by omega)];simp only [D.reps],trivial⟩
def fCons {α β:Type} {off off':Nat} {f:Field} {fs:List Field} {t:TypeId} (d:Dec P t α) (ht:f.type=t) (ho:f.offset=off) (r:DecF P off' fs β) (hoff:off+d.k=off'):DecF P off (f::fs) (α×β) where
 k:=d.k+r.k
 flat a:=d.flat a.1++r.flat a.2
 good a:=d.good a.1∧r.good a.2
 opens {H enc w sp held fuel cs} hl h:=by
  subst hoff;obtain ⟨x,hx⟩:=h f (by simp);rw [ht,ho,d.cells] at hx;obtain ⟨a,ha,ga⟩:=d.opens hx;obtain ⟨b,hb,gb⟩:=r.opens (by omega) λg hg=>h g (by simp [hg])
  refine ⟨(a,b),?_,ga,gb⟩;have e:cs.drop off=(cs.drop off).take d.k++cs.drop (off+d.k):=by
   rw [← List.drop_drop,ux]
  rw [e];exact znR ha hb
def decS {α β:Type} {t:TypeId} {fs:Array Field} (ht:P.underlying t=some (.struct fs)) (F:DecF P 0 fs.toList α) (hc:P.cellsOf t=F.k) (hp:0<F.k) (mk:α→β) (flat:β→List D) (hflat:∀ a,flat (mk a)=F.flat a):Dec P t β where
 k:=F.k
 pos:=hp
 cells:=hc
 flat:=flat
 el b:=.agg (flat b)
 good b:=∃ a,mk a=b∧F.good a
 opens {H enc w sp held fuel cs x} h:=by
  obtain ⟨xs,n,-,-,hl,hsz,hf⟩:=DataW.trod_struct ht h;obtain ⟨a,ha,ga⟩:=F.opens (enc:=enc) (w:=w) (sp:=sp) (held:=held) (fuel:=n) (cs:=cs) (by omega) λf hm=>by
   obtain ⟨i,hi,rfl⟩:=List.mem_iff_getElem.1 hm;have h1:=hf i _ (by rw [← yV];exact yo hi);rw [h1];have hix:i<xs.length:=by rw [hsz,← yw];exact hi
   exact ⟨_,yo hix⟩
  refine ⟨mk a,?_,a,rfl,ga⟩;rw [hflat];simpa using ha
 elOK {w a cs} h:=by
  refine ⟨.agg cs.toArray,?_,rfl⟩;simp only [D.rep];exact ⟨cs.toArray,rfl,by simpa using h⟩
 arg {w r base v a} hv h:=by
  obtain ⟨cs,rfl,-⟩:=WideShapes.okWide_struct ht hv;simp only [D.rep];exact ⟨cs,rfl,h⟩
theorem Dec.of_arg {α:Type} {t} (d:Dec P t α) {H:Type} {enc:TypeId×Value→H} {w sp held} {r:Reach} {base v} {dd:DataW H} {ps:List MemPlace} (hv:Value.okWide P w r base t v) (h:DataW.Trod enc P w 0 sp held t v dd ps):∃ a,D.rep Noneof w (d.el a) v:=by
 obtain ⟨fuel,hf⟩:=h;obtain ⟨a,ha,-⟩:=d.opens hf;exact ⟨a,d.arg hv ha⟩
theorem Dec.of_argG {α:Type} {t} (d:Dec P t α) {H:Type} {enc:TypeId×Value→H} {w sp held} {r:Reach} {base v} {dd:DataW H} {ps:List MemPlace} (hv:Value.okWide P w r base t v) (h:DataW.Trod enc P w 0 sp held t v dd ps):∃ a,D.rep Noneof w (d.el a) v∧d.good a:=by
 obtain ⟨fuel,hf⟩:=h;obtain ⟨a,ha,ga⟩:=d.opens hf;exact ⟨a,d.arg hv ha,ga⟩
theorem zh3 {H:Type} {enc:TypeId×Value→H} (hl:laidOutB P=true) {W W'} (hb:Fr ze W W') {sp}:∀ {ts:List TypeId} {vs:List Value} {ds:List (DataW H)} {ps:List MemPlace},(∀ t∈ts,P.readableRec t=true∧t<P.types.size)→DataW.TrodAll enc P W 0 (λ_=>true) true ts vs ds ps→(∀ p∈ps,p.block<W.heap.size)→(∀ p∈ps,sp p.block=true)→DataW.TrodAll enc P W' 0 sp true ts vs ds ps
 | [],vs,ds,ps,_,h,_,_=>by
  obtain ⟨rfl,rfl,rfl⟩:=ChangeShapes.trodAll_nil h;exact ChangeShapes.trodAll_mk0
 | t::ts,vs,ds,ps,hr,h,hlt,hs=>by
  obtain ⟨v,vs',d,ds',p,q,rfl,rfl,rfl,h1,h2⟩:=ChangeShapes.trodAll_cons h;refine ⟨p,q,WideElems.Trod_stays hl (hr t (by simp)).1 (hr t (by simp)).2 h1 (λx hx=>?_) (λx hx=>hs x (by simp [hx])),zh3 hl hb (λu hu=>hr u (by simp [hu])) h2 (λx hx=>hlt x (by simp [hx])) (λx hx=>hs x (by simp [hx])),rfl⟩;have hx':=hlt x (by simp [hx]);cases x with
  | cell b o=>exact World.cell?_of_block (w:=W) (hb.block b hx' (λh=>h))
  | map b=>exact hb.block b hx' (λh=>h)
theorem zps {H:Type} {enc:TypeId×Value→H} {f} {s:ChangeSpec} {W W' args v} {ds gs:List (DataW H)} {before:List MemPlace}
  (hW:DataW.Whole enc P f.params.toList s.vars false W args.toList ds gs before) (hvars:s.vars=[]) (hx:(s.fn H (ds++gs)).args=ds) (hy:(s.fn H (ds++gs)).vars=[])
  (hl:laidOutB P=true) (hr:∀ t∈f.params.toList,P.readableRec t=true∧t<P.types.size) (hf:Fr ze W W')
  (hres:∀ (b:Nat) (sp:Nat→Bool) (hd:Bool),DataW.TrodAll enc P W' b sp hd f.resultTypes.toList (v.resultList f.resultTypes.size) (s.fn H (ds++gs)).results []) :
  s.post enc P f false true false false W args v W':=by
 have hb:Below W.heap.size W W':=⟨hf.os,hf.tape,hf.output,hf.size,λk hk=>hf.block k hk λh=>h⟩
 have hlt:∀ p∈before,p.block<W.heap.size:=λp hp=>hW.lt p hp
 obtain ⟨p,q,hA,hV,rfl,-,-⟩:=id hW;rw [hvars] at hV;obtain ⟨rfl,rfl⟩:=ChangeShapes.trodVars_none hV;simp only [ur] at hlt;have hst:∀ sp:Nat→Bool,(∀ x∈p,sp x.block=true)→DataW.TrodAll enc P W' 0 sp true f.params.toList args.toList (s.fn H (ds++[])).args p:=λsp hs=>by
  rw [hx];exact zh3 hl hf hr hA hlt hs
 have hvs:∀ sp:Nat→Bool,DataW.TrodVars enc P W' sp s.vars (s.fn H (ds++[])).vars []:=λsp=>by
  rw [hvars,hy];rfl
 exact ⟨ds,[],p++[],[],p,[],hW,hres _ _ _,hst _ (λx hx=>by simpa using hlt x hx),hvs _,hb.frame _,λh=>by cases h⟩
end
noncomputable def dInt:Dec Tryz.prog 3 Int:=zr5 Tryz.underlying3 (by kernel_rfl)
noncomputable def dBool:Dec Tryz.prog 4 Bool:=zqS Tryz.underlying4 (by kernel_rfl)
noncomputable def dStr:Dec Tryz.prog 9 (List UInt8):=zr6 Tryz.underlying9 (by kernel_rfl)
noncomputable def dInts:Dec Tryz.prog 22 (List Int):=decSl dInt Tryz.underlying22 (by kernel_rfl)
noncomputable def dStrs:Dec Tryz.prog 24 (List (List UInt8)):=decSl dStr Tryz.underlying24 (by kernel_rfl)
noncomputable def zr2:Dec Tryz.prog 85 Range:=decS (α:=Int×Int×Unit) Tryz.underlying85 (fCons dInt rfl rfl (fCons dInt rfl rfl fNil rfl) rfl) (by kernel_rfl) (by decide) (λx=>⟨x.1,x.2.1⟩) (λx=>[.int x.lo,.int x.hi]) (λ_=>rfl)
noncomputable def dTerm:Dec Tryz.prog 129 Term:=decS (α:=Int×Int×Unit) Tryz.underlying129 (fCons dInt rfl rfl (fCons dInt rfl rfl fNil rfl) rfl) (by kernel_rfl) (by decide) (λx=>⟨x.1,x.2.1⟩) (λx=>[.int x.cell,.int x.factor]) (λ_=>rfl)
noncomputable def zr4:Dec Tryz.prog 70 (List Term):=decSl dTerm Tryz.underlying70 (by kernel_rfl)
noncomputable def dRow:Dec Tryz.prog 72 Row:=decS (α:=List Term×Int×Unit) Tryz.underlying72 (fCons zr4 rfl rfl (fCons dInt rfl rfl fNil rfl) rfl) (by kernel_rfl) (by decide) (λx=>⟨x.1,x.2.1⟩) (λx=>[.sl 2 (x.terms.map Term.enc),.int x.bound]) (λ_=>rfl)
noncomputable def zr3:Dec Tryz.prog 118 Table:=decS (α:=List UInt8×Int×List Int×Range×Int×Unit) Tryz.underlying118 (fCons dStr rfl rfl (fCons dInt rfl rfl (fCons dInts rfl rfl (fCons zr2 rfl rfl (fCons dInt rfl rfl fNil rfl) rfl) rfl) rfl) rfl) (by kernel_rfl) (by decide) (λx=>⟨x.1,x.2.1,x.2.2.1,x.2.2.2.1,x.2.2.2.2.1⟩) (λx=>[.str x.name,.int x.kind,.sl 1 (x.columns.map D.int),.int x.range.lo,.int x.range.hi,.int x.first]) (λ_=>rfl)
noncomputable def zqP:Dec Tryz.prog 23 (List Table):=decSl zr3 Tryz.underlying23 (by kernel_rfl)
noncomputable def dCon:Dec Tryz.prog 135 Constraint:=decS (α:=Int×Int×Row×Int×Int×Unit) Tryz.underlying135 (fCons dInt rfl rfl (fCons dInt rfl rfl (fCons dRow rfl rfl (fCons dInt rfl rfl (fCons dInt rfl rfl fNil rfl) rfl) rfl) rfl) rfl) (by kernel_rfl) (by decide) (λx=>⟨x.1,x.2.1,x.2.2.1,x.2.2.2.1,x.2.2.2.2.1⟩) (λx=>[.int x.kind,.int x.family,.sl 2 (x.row.terms.map Term.enc),.int x.row.bound,.int x.first,.int x.size]) (λ_=>rfl)
noncomputable def dCons:Dec Tryz.prog 25 (List Constraint):=decSl dCon Tryz.underlying25 (by kernel_rfl)
noncomputable def dOper:Dec Tryz.prog 133 Operation:=decS (α:=List UInt8×Bool×List Int×Unit) Tryz.underlying133 (fCons dStr rfl rfl (fCons dBool rfl rfl (fCons dInts rfl rfl fNil rfl) rfl) rfl) (by kernel_rfl) (by decide) (λx=>⟨x.1,x.2.1,x.2.2.1⟩) (λx=>[.str x.name,.bool x.ordered,.sl 1 (x.sorts.map D.int)]) (λ_=>rfl)
noncomputable def zr0:Dec Tryz.prog 26 (List Operation):=decSl dOper Tryz.underlying26 (by kernel_rfl)
noncomputable def zqN:Dec Tryz.prog 137 Change:=decS (α:=Int×Int×Unit) Tryz.underlying137 (fCons dInt rfl rfl (fCons dInt rfl rfl fNil rfl) rfl) (by kernel_rfl) (by decide) (λx=>⟨x.1,x.2.1⟩) (λx=>[.int x.cell,.int x.add]) (λ_=>rfl)
noncomputable def zp3:Dec Tryz.prog 59 (List Change):=decSl zqN Tryz.underlying59 (by kernel_rfl)
noncomputable def dRows:Dec Tryz.prog 60 (List Row):=decSl dRow Tryz.underlying60 (by kernel_rfl)
noncomputable def zqR:Dec Tryz.prog 188 Update:=decS (α:=Int×Int×Int×Unit) Tryz.underlying188 (fCons dInt rfl rfl (fCons dInt rfl rfl (fCons dInt rfl rfl fNil rfl) rfl) rfl) (by kernel_rfl) (by decide) (λx=>⟨x.1,x.2.1,x.2.2.1⟩) (λx=>[.int x.kind,.int x.cell,.int x.value]) (λ_=>rfl)
noncomputable def zp4:Dec Tryz.prog 61 (List Update):=decSl zqR Tryz.underlying61 (by kernel_rfl)
noncomputable def zqO:Dec Tryz.prog 63 Effect:=decS (α:=List Change×List Row×List Update×Unit) Tryz.underlying63 (fCons zp3 rfl rfl (fCons dRows rfl rfl (fCons zp4 rfl rfl fNil rfl) rfl) rfl) (by kernel_rfl) (by decide) (λx=>⟨x.1,x.2.1,x.2.2.1⟩) (λx=>[.sl 2 (x.delta.map Change.enc),.sl 2 (x.hold.map Row.enc),.sl 3 (x.updates.map Update.enc)]) (λ_=>rfl)
noncomputable def zqM:Dec Tryz.prog 65 Action:=decS (α:=Int×List Int×Effect×Unit) Tryz.underlying65 (fCons dInt rfl rfl (fCons dInts rfl rfl (fCons zqO rfl rfl fNil rfl) rfl) rfl) (by kernel_rfl) (by decide) (λx=>⟨x.1,x.2.1,x.2.2.1⟩) (λx=>[.int x.operation,.sl 1 (x.arguments.map D.int),.sl 2 (x.effect.delta.map Change.enc),.sl 2 (x.effect.hold.map Row.enc),.sl 3 (x.effect.updates.map Update.enc)]) (λ_=>rfl)
noncomputable def zp2:Dec Tryz.prog 27 (List Action):=decSl zqM Tryz.underlying27 (by kernel_rfl)
noncomputable def dHide:Dec Tryz.prog 161 Hide:=decS (α:=Int×Int×Int×Unit) Tryz.underlying161 (fCons dInt rfl rfl (fCons dInt rfl rfl (fCons dInt rfl rfl fNil rfl) rfl) rfl) (by kernel_rfl) (by decide) (λx=>⟨x.1,x.2.1,x.2.2.1⟩) (λx=>[.int x.table,.int x.column,.int x.to]) (λ_=>rfl)
noncomputable def zrZ:Dec Tryz.prog 28 (List Hide):=decSl dHide Tryz.underlying28 (by kernel_rfl)
noncomputable def zqv:Dec Tryz.prog 30 Model:=decS (α:=List Int×List Table×List (List UInt8)×List Constraint×List Operation×List Action×List Hide×Unit) Tryz.underlying30 (fCons dInts rfl rfl (fCons zqP rfl rfl (fCons dStrs rfl rfl (fCons dCons rfl rfl (fCons zr0 rfl rfl (fCons zp2 rfl rfl (fCons zrZ rfl rfl fNil rfl) rfl) rfl) rfl) rfl) rfl) rfl) (by kernel_rfl) (by decide) (λx=>⟨x.1,x.2.1,x.2.2.1,x.2.2.2.1,x.2.2.2.2.1,x.2.2.2.2.2.1,x.2.2.2.2.2.2.1⟩) (λx=>[.sl 1 (x.sorts.map D.int),.sl 6 (x.tables.map Table.enc),.sl 1 (x.families.map D.str),.sl 6 (x.constraints.map Constraint.enc),.sl 3 (x.operations.map Operation.enc),.sl 5 (x.actions.map Action.enc),.sl 3 (x.hides.map Hide.enc)]) (λ_=>rfl)
noncomputable def zqQ:Dec Tryz.prog 32 Target:=decS (α:=Bool×Int×Unit) Tryz.underlying32 (fCons dBool rfl rfl (fCons dInt rfl rfl fNil rfl) rfl) (by kernel_rfl) (by decide) (λx=>⟨x.1,x.2.1⟩) (λx=>[.bool x.hold,.int x.index]) (λ_=>rfl)
noncomputable def zr1:Dec Tryz.prog 34 Question:=decS (α:=Int×Int×Target×Unit) Tryz.underlying34 (fCons dInt rfl rfl (fCons dInt rfl rfl (fCons zqQ rfl rfl fNil rfl) rfl) rfl) (by kernel_rfl) (by decide) (λx=>⟨x.1,x.2.1,x.2.2.1⟩) (λx=>[.int x.e,.int x.f,.bool x.target.hold,.int x.target.index]) (λ_=>rfl)
noncomputable def dSwap:Dec Tryz.prog 41 Swap:=decS (α:=Int×Int×Int×Unit) Tryz.underlying41 (fCons dInt rfl rfl (fCons dInt rfl rfl (fCons dInt rfl rfl fNil rfl) rfl) rfl) (by kernel_rfl) (by decide) (λx=>⟨x.1,x.2.1,x.2.2.1⟩) (λx=>[.int x.sort,.int x.a,.int x.b]) (λ_=>rfl)
theorem type0:(((begin Tryz.prog (λ_ _=>0) default).world.heap[0]?).bind Obj.row?).map (·.2)=some 313:=by kernel_rfl
theorem zqU {W:World} (hL:laidMetH Tryz.prog Rows.symmetryOrderRow.laid W) (hS:W.ShapedOpen Tryz.prog):zdW Noneof W:=by
 intro p hp;have e:p=(0,Obj.cells (tab0.map (Value.int .u8)).toArray 313 (0,0)):=by simpa [Globs.gs] using hp
 subst e;refine ⟨λh=>h,?_⟩;rw [MakeChecks.laidMetH_plain _ _ _ (by kernel_rfl)] at hL;have e:(Rows.laid_strings_asciiSpace:DataW Unit)=Lib.tabData .u8 tab0:=by kernel_rfl
 have hT : laidMet Tryz.prog [("strings.asciiSpace", Lib.tabData .u8 tab0)] W := by rw [← e]; exact hL.tail
 have ht : Lib.TabIs Tryz.prog W "strings.asciiSpace" .u8 tab0 := Lib.tabIs_of_head (g := 0) (t := 313) (e := 5) (n := 256) (by kernel_rfl) (by kernel_rfl) Tryz.underlying313 Tryz.underlying5 (by kernel_rfl) (by kernel_rfl) hT;obtain ⟨⟨zero, t⟩, hz, rfl⟩ := Option.map_eq_some_iff.1 type0;obtain ⟨cs, hcs, -, -⟩ := hS.1 0 zero 313 (by rw [show Tryz.prog.globals.size = 4 by kernel_rfl]; decide) hz;have hv := ht;unfold Lib.TabIs World.var? at hv;rw [show Tryz.prog.globalNamed "strings.asciiSpace" = some 0 by kernel_rfl] at hv;simp only [ya, hcs, yi] at hv;rw [hcs, hv]
section
open Go Go.RowKit Go.Proofs
theorem Y227:zai Tryz.prog 227=some (some 4):=by kernel_rfl
def tokL : List Oper := [{ dst := some 84, op := Op.move (Operand.tmp 0), type := 301, pos := "lexer.go:103", after := #[], guard := none }, { dst := some 85, op := Op.load 227 (Operand.tmp 5), type := 227, pos := "lexer.go:103", after := #[], guard := none }, { dst := some 86, op := Op.call { callee := Callee.value (Operand.tmp 84), args := #[Operand.tmp 85], argTypes := #[227] }, type := 4, pos := "lexer.go:103", after := #[{ on := 0, ground := Ground.data }, { on := 1, ground := Ground.data }], guard := none }, { dst := some 87, op := Op.unOp UnOp.not 4 (Operand.tmp 86), type := 4, pos := "lexer.go:103", after := #[{ on := 2, ground := Ground.data }], guard := none }, { dst := some 88, op := Op.move (Operand.tmp 87), type := 4, pos := "lexer.go:103", after := #[{ on := 3, ground := Ground.data }, { on := 2, ground := Ground.chain }], guard := none }, { dst := some 89, op := Op.fieldAddr 227 (Operand.tmp 5) 0, type := 0, pos := "lexer.go:103", after := #[{ on := 4, ground := Ground.guard }], guard := some (4, false) }, { dst := some 90, op := Op.load 3 (Operand.tmp 89), type := 3, pos := "lexer.go:103", after := #[{ on := 5, ground := Ground.data }, { on := 4, ground := Ground.guard }], guard := some (4, false) }, { dst := some 91, op := Op.binOp BinOp.eql 3 (Operand.tmp 90) (Operand.const (Value.int IntKind.i64 0)) 3, type := 4, pos := "lexer.go:103", after := #[{ on := 6, ground := Ground.data }, { on := 4, ground := Ground.guard }], guard := some (4, false) }, { dst := some 92, op := Op.pick (Operand.tmp 88) (Operand.const (Value.bool true)) (Operand.tmp 91), type := 4, pos := "lexer.go:103", after := #[{ on := 4, ground := Ground.data }, { on := 7, ground := Ground.data }], guard := none }]
def tokX:Code:=.seq (.region 19 tokL.toArray false) (.cond (.tmp 92) .ret .skip)
theorem R.reCtx {C C':Ctx} (h1:C'.A0=C.A0) (h2:C'.own0=C.own0) (h3:C'.w0=C.w0) (h4:C'.n=C.n) (h5:C'.gh=C.gh) (h6:C'.gn=C.gn) (h7:C'.df=C.df) {bs:List (Option Nat)} {s:St} {a:Act} {w:World} (h:R C bs s a w):R C' bs s a w:=by
 obtain ⟨A0,own0,w0,n,esc,gh,gn,df⟩:=C
 obtain ⟨A1,own1,w1,n1,esc1,gh1,gn1,df1⟩:=C'
 simp only at h1 h2 h3 h4 h5 h6 h7
 subst h1;subst h2;subst h3;subst h4;subst h5;subst h6;subst h7
 exact ⟨h.own,h.len,h.blk,h.tmp,h.defers,h.size,h.fr,h.new,h.gh⟩
theorem R.noEsc {A0 own0:Nat→Prop} {w0:World} {n:Nat} {esc esc':Act→World→Prop} {bs:List (Option Nat)} {s:St} {a:Act} {w:World} (h:R ⟨A0,own0,w0,n,esc,[],0,[]⟩ bs s a w):R ⟨A0,own0,w0,n,esc',[],0,[]⟩ bs s a w:=
 ⟨h.own,h.len,h.blk,h.tmp,h.defers,h.size,h.fr,h.new,h.gh⟩
theorem zqk {A:Nat→Prop} {w0:World} {Post:World→Prop} (l:Nat) (tok:Token)
  (hround:∀ (W:World) (v:Value),Fr ze w0 W→D.rep A W tok.enc v→∃ fn tm asg bd,(Instr.yield l #[v]).run Tryz.prog W = .ok (.round l fn tm asg bd) W∧RoundIn Fence.wide 0 Tryz.prog l fn tm asg bd W (λe W'=>e = .returned (.bool false)∧Post W'))
  (Q:Exit→St→Prop) (T:List (Nat×V)) (H:List Blk) (j:Nat) (h0:look 0 T=some (.d (.fn (.yield l) [] []))) (h5:look 5 T=some (.loc j 0)) (hj:H[j]? = some (.box 227 (V.cellsV (.d tok.enc)))) :
  Tri Tryz.prog ⟨A,ze,w0,93,λa W'=>a.defers=[]∧Post W',[],0,[]⟩ tokX Q ⟨T,H⟩:=by
 refine ⟨λbs a w hR=>(wpIn_wide (n:=1)).1 ?_⟩
 unfold tokX
 refine wpIn_seq (wpIn_region_lit ?_)
 have hR':R ⟨A,ze,w0,93,λ_ _=>False,[],0,[]⟩ bs ⟨T,H⟩ a w:=R.reCtx (C:=⟨A,ze,w0,93,λa W'=>a.defers=[]∧Post W',[],0,[]⟩) (C':=⟨A,ze,w0,93,λ_ _=>False,[],0,[]⟩) rfl rfl rfl rfl rfl rfl rfl hR
 have hpre:TriL Tryz.prog ⟨A,ze,w0,93,λ_ _=>False,[],0,[]⟩ tokL.toArray (tokL.take 2) (λe s=>e = .normal∧look 84 s.T=some (.d (.fn (.yield l) [] []))∧look 85 s.T=some (.d tok.enc)) ⟨T,H⟩:=by
  refine .op rfl rfl (.move rfl h0) ?_
  refine .op rfl rfl (.loadLoc rfl h5 hj Y227 (yd rfl) (v:=.d tok.enc) rfl) ?_
  exact .nil ⟨rfl,rfl,rfl⟩
 refine zd3 (pre:=tokL.take 2) (post:=tokL.drop 2) (Q0:=QR _ _) ?_ ?_ a w (hpre.run bs a w hR')
 ·rintro e a w (⟨_,_,⟨h,_⟩,_⟩ | ⟨_,h⟩)
  ·exact h
  ·exact h.elim
 rintro a1 w1 (⟨bs1,s1,⟨_,g1,g2⟩,hR1⟩ | ⟨h,_⟩)
 case inr=>cases h
 have e84:=hR1.ev (x:=.tmp 84) (by simpa [ev] using g1)
 have e85:=hR1.ev (x:=.tmp 85) (by simpa [ev] using g2)
 simp only [V.rep,D.rep] at e84
 obtain ⟨vs,us,e84,e1,e2⟩:=e84
 simp only [D.reps] at e1 e2
 have e1:vs = #[]:=by simpa using e1
 have e2:us = #[]:=by simpa using e2
 subst e1;subst e2
 simp only [V.rep] at e85
 obtain ⟨fn,tm,asg,bd,hy,hr⟩:=hround w1 _ hR1.fr (D.scal_rep rfl e85)
 have hsz:a1.tmps.size=93:=hR1.size
 have hdf:=hR1.defers
 simp only [tokL,List.drop]
 refine wpListIn_plain rfl λK hK=>⟨λ_ _=>trivial,?_⟩
 have hx:∀ (o:Oper),o.op = .call { callee:=.value (.tmp 84),args:=#[.tmp 85],argTypes:=#[227] }→(execOp a1.eval o).run Tryz.prog w1 = .ok (.round l fn tm asg bd) w1:=λo ho=>by
  simp [execOp,ho,resolve,e84,Deferred.ofValue,invoke,hy]
 have hsm:∀ ρ o,Oper.semAt Fence.wide.round ρ o=execOp ρ o:=λ_ _=>rfl
 rw [hsm,hx _ rfl,Oper.uponIn_round]
 refine ⟨λh=>by simp [Fence.wide] at h,hr.mono ?_⟩
 rintro e W' ⟨rfl,hp⟩
 refine hK _ _ ?_
 obtain ⟨a2,ha2⟩:∃ a2,a1.put (some 86) (.bool false)=a2:=⟨_,rfl⟩
 have z2:a2.tmps.size=93∧a2.defers=[]∧a2.tmps[86]? = some (.bool false):=by subst ha2;exact ⟨by simp [Act.put,hsz],hdf,by simp [Act.put,hsz]⟩
 simp only [ha2]
 clear ha2 hK K
 refine wpListIn_plain rfl λK hK=>⟨λ_ _=>trivial,?_⟩
 rw [hsm]
 have x87:∀ (o:Oper),o.op = .unOp .not 4 (.tmp 86)→(execOp a2.eval o).run Tryz.prog W' = .ok (.value (.bool true)) W':=λo ho=>by simp [execOp,ho,Op.unary,Act.eval,z2.2.2]
 rw [x87 _ rfl]
 refine hK _ _ ?_
 obtain ⟨a3,ha3⟩:∃ a3,a2.put (some 87) (.bool true)=a3:=⟨_,rfl⟩
 have z3:a3.tmps.size=93∧a3.defers=[]∧a3.tmps[87]? = some (.bool true):=by subst ha3;exact ⟨by simp [Act.put,z2.1],z2.2.1,by simp [Act.put,z2.1]⟩
 simp only [ha3]
 clear ha3 hK K
 refine wpListIn_plain rfl λK hK=>⟨λ_ _=>trivial,?_⟩
 rw [hsm]
 have x88:∀ (o:Oper),o.op = .move (.tmp 87)→(execOp a3.eval o).run Tryz.prog W' = .ok (.value (.bool true)) W':=λo ho=>by simp [execOp,ho,Act.eval,z3.2.2]
 rw [x88 _ rfl]
 refine hK _ _ ?_
 obtain ⟨a4,ha4⟩:∃ a4,a3.put (some 88) (.bool true)=a4:=⟨_,rfl⟩
 have z4:a4.tmps.size=93∧a4.defers=[]∧a4.tmps[88]? = some (.bool true):=by subst ha4;exact ⟨by simp [Act.put,z3.1],z3.2.1,by simp [Act.put,z3.1]⟩
 simp only [ha4]
 clear ha4 hK K
 have hw:∀ (a:Act) (o:Oper),o.guard=some (4,false)→a.tmps[88]? = some (.bool true)→Region.wanted o (yielded tokL.toArray a.tmps)=false:=λa o ho ha=>by
  simp [Region.wanted,ho,yielded,tokL,ha]
 simp only [tokL] at hw
 refine wpListIn_skip (hw a4 _ rfl z4.2.2) rfl ?_
 obtain ⟨a5,ha5⟩:∃ a5,a4.put (some 89) undef=a5:=⟨_,rfl⟩
 have z5:a5.tmps.size=93∧a5.defers=[]∧a5.tmps[88]? = some (.bool true):=by subst ha5;exact ⟨by simp [Act.put,z4.1],z4.2.1,by simp [Act.put,z4.2.2]⟩
 simp only [ha5]
 refine wpListIn_skip (hw a5 _ rfl z5.2.2) rfl ?_
 obtain ⟨a6,ha6⟩:∃ a6,a5.put (some 90) undef=a6:=⟨_,rfl⟩
 have z6:a6.tmps.size=93∧a6.defers=[]∧a6.tmps[88]? = some (.bool true):=by subst ha6;exact ⟨by simp [Act.put,z5.1],z5.2.1,by simp [Act.put,z5.2.2]⟩
 simp only [ha6]
 refine wpListIn_skip (hw a6 _ rfl z6.2.2) rfl ?_
 obtain ⟨a7,ha7⟩:∃ a7,a6.put (some 91) undef=a7:=⟨_,rfl⟩
 have z7:a7.tmps.size=93∧a7.defers=[]∧a7.tmps[88]? = some (.bool true):=by subst ha7;exact ⟨by simp [Act.put,z6.1],z6.2.1,by simp [Act.put,z6.2.2]⟩
 simp only [ha7]
 clear ha5 ha6 ha7
 refine wpListIn_plain rfl λK hK=>⟨λ_ _=>trivial,?_⟩
 rw [hsm]
 have x92:∀ (o:Oper),o.op = .pick (.tmp 88) (.const (.bool true)) (.tmp 91)→(execOp a7.eval o).run Tryz.prog W' = .ok (.value (.bool true)) W':=λo ho=>by simp [execOp,ho,asBool,Act.eval,z7.2.2]
 rw [x92 _ rfl]
 refine hK _ _ ?_
 obtain ⟨a8,ha8⟩:∃ a8,a7.put (some 92) (.bool true)=a8:=⟨_,rfl⟩
 have z8:a8.defers=[]∧a8.tmps[92]? = some (.bool true):=by subst ha8;exact ⟨z7.2.1,by simp [Act.put,z7.1]⟩
 simp only [ha8]
 refine wpListIn_nil ?_
 simp only [Exit.then]
 refine wpIn_cond (t:=true) (by simp [Act.eval,z8.2]) ?_
 exact wpIn_ret (.inr ⟨rfl,z8.1,hp⟩)
end
section
def zqy:Obj→Bool
 | .cells _ _ _ | .map _ _ | .mapIter _ _ _ _=>true
 | _=>false
structure Turn (w w':World):Prop where
 size:w'.heap.size=w.heap.size
 at_:∀ (b:Nat) (o:Obj),w.heap[b]? = some o→zqy o=true→w'.heap[b]? = some o
theorem Turn.put {w l o o'} (h:w.heap[l]? = some o) (hn:zqy o=false):Turn w (w.putObj l o'):=
 ⟨by simp,λb q hb hq=>by
  by_cases e:b=l
  ·subst e;rw [h] at hb;cases hb;rw [hn] at hq;cases hq
  ·exact (World.putObj_heap_other e).trans hb⟩
theorem Turn.cell {w w'} (t:Turn w w') {p v} (h:w.cell? p=some v):w'.cell? p=some v:=by
 unfold World.cell? at h ⊢;cases hb:w.heap[p.block]? with
 | none=>simp [hb] at h
 | some o=>
  cases o with
  | cells c e f=>rw [t.at_ _ _ hb rfl];simpa [hb] using h
  | _=>simp [hb] at h
theorem Turn.cells {w w'} (t:Turn w w') {b off u} (h:zdh w b off u):zdh w' b off u:=λj hj=>by
 have:=h j hj;rw [y6 hj] at this ⊢;exact t.cell this
theorem Turn.row {w w'} (t:Turn w w') {b e k v n xs} (h:w.ownsRow b e k v n xs):w'.ownsRow b e k v n xs:=
 ⟨h.1,h.2.imp id λ⟨g,cap,cur,a1,a2,a3,rest⟩=>⟨g,cap,cur,a1,a2,t.at_ _ _ a3 rfl,rest⟩⟩
mutual
theorem D.rep_turn {A w w'} (t:Turn w w'):∀ (d:D) (v:Value),D.rep A w d v→D.rep A w' d v
 | .val x,v,hv=>by simpa only [D.rep] using hv
 | .agg cs,v,hv=>by
  simp only [D.rep] at hv ⊢;obtain ⟨vs,e,hr⟩:=hv;exact ⟨vs,e,D.reps_turn t cs _ hr⟩
 | .tup cs,v,hv=>by
  simp only [D.rep] at hv ⊢;obtain ⟨vs,e,hr⟩:=hv;exact ⟨vs,e,D.reps_turn t cs _ hr⟩
 | .sl k xs,v,hv=>by
  simp only [D.rep] at hv ⊢;obtain ⟨a,cap,e,hcap,hr⟩:=hv;refine ⟨a,cap,e,hcap,hr.imp id λ⟨b,off,ea,hb,hs,hr⟩=>⟨b,off,ea,hb,by rw [t.size];exact hs,D.row_turn t b k xs off hr⟩⟩
 | .ref x,v,hv=>by
  simp only [D.rep] at hv ⊢;obtain ⟨b,off,u,e,hb,hs,hr,hc⟩:=hv;exact ⟨b,off,u,e,hb,by rw [t.size];exact hs,D.rep_turn t x u hr,t.cells hc⟩
 | .fn f fs cs,v,hv=>by
  simp only [D.rep] at hv ⊢;obtain ⟨vs,us,e,h1,h2⟩:=hv;exact ⟨vs,us,e,D.reps_turn t fs _ h1,D.reps_turn t cs _ h2⟩
 | .mp ks ds,v,hv=>by
  simp only [D.rep] at hv ⊢;obtain ⟨b,es,clock,e,hb,hs,hh,h1,hwf,h2⟩:=hv;exact ⟨b,es,clock,e,hb,by rw [t.size];exact hs,t.at_ _ _ hh rfl,h1,hwf,D.reps_turn t ds _ h2⟩
theorem D.reps_turn {A w w'} (t:Turn w w'):∀ (ds:List D) (vs:List Value),D.reps A w ds vs→D.reps A w' ds vs
 | [],vs,hv=>by simpa only [D.reps] using hv
 | d::ds,vs,hv=>by
  simp only [D.reps] at hv ⊢;obtain ⟨v,vs',e,h1,h2⟩:=hv;exact ⟨v,vs',e,D.rep_turn t d v h1,D.reps_turn t ds vs' h2⟩
theorem D.row_turn {A w w'} (t:Turn w w') (b k):∀ (xs:List D) (off:Nat),D.row A w b k xs off→D.row A w' b k xs off
 | [],_,_=>by simp only [D.row]
 | x::xs,off,hv=>by
  simp only [D.row] at hv ⊢;obtain ⟨⟨u,h1,h2,h3⟩,h4⟩:=hv;exact ⟨⟨u,D.rep_turn t x u h1,t.cells h2,h3⟩,D.row_turn t b k xs (off+k) h4⟩
end
theorem D.flat_turn {A w w'} (t:Turn w w') {k}:∀ (xs:List D) (cs:List Value),D.flat A w k xs cs→D.flat A w' k xs cs
 | [],cs,hv=>by simpa only [D.flat] using hv
 | x::xs,cs,hv=>by
  simp only [D.flat] at hv ⊢;obtain ⟨u,cs',e,hk,h1,h2⟩:=hv;exact ⟨u,cs',e,hk,D.rep_turn t x u h1,D.flat_turn t xs cs' h2⟩
theorem QueAt.turn {A w w' b o cap k ty xs} (q:QueAt A w b o cap k ty xs) (t:Turn w w'):QueAt A w' b o cap k ty xs:=by
 obtain ⟨h1,cells,h2,h3,cs,h4,h5⟩:=q;exact ⟨h1,cells,t.at_ _ _ h2 rfl,h3,cs,D.flat_turn t xs cs h4,h5⟩
mutual
theorem V.rep_turn {A w w' bs H} (t:Turn w w'):∀ (x:V) (v:Value),V.rep A w bs H x v→V.rep A w' bs H x v
 | .d x,v,hv=>by simp only [V.rep] at hv ⊢;exact D.rep_turn t x v hv
 | .loc i off,v,hv=>by simpa only [V.rep] using hv
 | .vec i n,v,hv=>by
  simp only [V.rep] at hv ⊢;split at hv
  ·refine ⟨hv.1,λhn=>?_⟩;obtain ⟨cells,h1,h2,h3⟩:=hv.2 hn;exact ⟨cells,t.row h1,h2,D.flat_turn t _ cells h3⟩
  ·trivial
  ·exact hv.elim
 | .arr i off n,v,hv=>by simpa only [V.rep] using hv
 | .el i n j off,v,hv=>by
  simp only [V.rep] at hv ⊢;split at hv
  ·refine ⟨hv.1,λhn=>?_⟩;obtain ⟨hdr,cells,h1,h2,h3,h4⟩:=hv.2 hn;exact ⟨hdr,cells,t.row h1,h2,D.flat_turn t _ cells h3,h4⟩
  ·trivial
  ·exact hv.elim
 | .sub i n lo hi,v,hv=>by
  simp only [V.rep] at hv ⊢;split at hv
  ·refine ⟨hv.1,λhn=>?_⟩;obtain ⟨hdr,cells,h1,h2,h3,h4⟩:=hv.2 hn;exact ⟨hdr,cells,t.row h1,h2,D.flat_turn t _ cells h3,h4⟩
  ·trivial
  ·exact hv.elim
 | .agg cs,v,hv=>by
  simp only [V.rep] at hv ⊢;obtain ⟨vs,e,hr⟩:=hv;exact ⟨vs,e,V.reps_turn t cs _ hr⟩
 | .tup cs,v,hv=>by
  simp only [V.rep] at hv ⊢;obtain ⟨vs,e,hr⟩:=hv;exact ⟨vs,e,V.reps_turn t cs _ hr⟩
 | .fn f fs cs,v,hv=>by
  simp only [V.rep] at hv ⊢;obtain ⟨vs,us,e,h1,h2⟩:=hv;exact ⟨vs,us,e,V.reps_turn t fs _ h1,V.reps_turn t cs _ h2⟩
 | .mp i,v,hv=>by simpa only [V.rep] using hv
 | .itp i,v,hv=>by simpa only [V.rep] using hv
 | .que i m,v,hv=>by
  simp only [V.rep] at hv ⊢;split at hv
  ·refine ⟨hv.1,λhn=>?_⟩;obtain ⟨b,o,cap,h1,h2,h3⟩:=hv.2 hn;exact ⟨b,o,cap,h1,h2,h3.turn t⟩
  ·trivial
  ·exact hv.elim
 | .qel i m j,v,hv=>by
  simp only [V.rep] at hv ⊢;split at hv
  ·refine ⟨hv.1,λhn=>?_⟩;obtain ⟨b,o,cap,h1,h2,hj,h3⟩:=hv.2 hn;exact ⟨b,o,cap,h1,h2,hj,h3.turn t⟩
  ·trivial
  ·exact hv.elim
 | .junk,_,_=>by simp only [V.rep]
theorem V.reps_turn {A w w' bs H} (t:Turn w w'):∀ (xs:List V) (vs:List Value),V.reps A w bs H xs vs→V.reps A w' bs H xs vs
 | [],vs,hv=>by simpa only [V.reps] using hv
 | x::xs,vs,hv=>by
  simp only [V.reps] at hv ⊢;obtain ⟨v,vs',e,h1,h2⟩:=hv;exact ⟨v,vs',e,V.rep_turn t x v h1,V.reps_turn t xs vs' h2⟩
end
theorem Blk.rep_turn {A w w' bs H} (t:Turn w w') (i:Nat) (k:Blk) (hk:k.rep A w bs H i):k.rep A w' bs H i:=by
 cases k with
 | box ty cs=>
  simp only [Blk.rep] at hk ⊢;obtain ⟨b,vs,h1,h2,h3⟩:=hk;exact ⟨b,vs,h1,t.at_ _ _ h2 rfl,V.reps_turn t cs _ h3⟩
 | arr ty k xs=>
  simp only [Blk.rep] at hk ⊢;obtain ⟨b,vs,h1,h2,h3⟩:=hk;exact ⟨b,vs,h1,t.at_ _ _ h2 rfl,D.flat_turn t xs _ h3⟩
 | mp bo ks ds clock=>
  simp only [Blk.rep] at hk ⊢;obtain ⟨b,es,h1,h2,h3,h4,h5⟩:=hk;exact ⟨b,es,h1,t.at_ _ _ h2 rfl,h3,h4,D.reps_turn t ds _ h5⟩
 | it j since seen last=>
  simp only [Blk.rep] at hk ⊢;split at hk
  ·obtain ⟨b,m,h1,h2,h3⟩:=hk;exact ⟨b,m,h1,h2,t.at_ _ _ h3 rfl⟩
  ·trivial
  ·exact hk.elim
 | itd bo ks ds clock since seen last=>
  simp only [Blk.rep] at hk ⊢;obtain ⟨b,mb,es,h1,h2,h3,h4,h5,h6,h7,h8⟩:=hk;exact ⟨b,mb,es,h1,h2,by rw [t.size];exact h3,t.at_ _ _ h4 rfl,h5,h6,D.reps_turn t ds _ h7,t.at_ _ _ h8 rfl⟩
 | vec ty k xs=>trivial
 | que s ty k xs=>trivial
 | dead=>trivial
theorem R.turn {G G':Globs} {C C' bs s a w w'} (h : @R G C bs s a w) (t:Turn w w') (hA:C'.A0=C.A0) (hn:C'.n=C.n) (hgh:C'.gh=C.gh) (hgn:C'.gn=C.gn) (hdf:C'.df=C.df)
  (hfr:Fr C'.own0 C'.w0 w') (hnew:∀ b,some b∈bs→C'.own0 b∨C'.w0.heap.size≤b) (hg : @zdW G' (Own C'.A0 bs) w') : @R G' C' bs s a w':=by
 obtain ⟨A0,own0,w0,n,esc,gh,gn,df⟩:=C;obtain ⟨A1,own1,w1,n1,esc1,gh1,gn1,df1⟩:=C';simp only at hA hn hgh hgn hdf hfr hnew hg;subst hA;subst hn;subst hgh;subst hgn;subst hdf;obtain ⟨⟨o1,o2,o3,o4,_⟩,hlen,hblk,htmp,hd,hsz,_,_,hghs⟩:=h;exact ⟨⟨o1,o2,λb hb=>by rw [t.size];exact o3 b hb,λb hb=>by rw [t.size];exact o4 b hb,hg⟩,hlen,λi k hk=>Blk.rep_turn t i k (hblk i k hk),λu v hv=>⟨(htmp u v hv).1,V.rep_turn t v _ (htmp u v hv).2⟩,hd,hsz,hfr,hnew,λp hp=>⟨(hghs p hp).1,V.rep_turn t _ _ (hghs p hp).2⟩⟩
variable [Globs]
theorem Oper.wpIn_wide {P:Program} {F:Fence} (hF:F=Fence.wide∨∃ l,F=Fence.wide.inRound l) {o:Oper} (ho:∀ c,o.op≠.defer c) {a:Act} {w:World} {K:Act→World→Prop} {Q:Exit→Act→World→Prop} (h:o.wp P a w K Q):o.wpIn F 0 P a w K Q:=by
 have hfn:∀ f,F.fn f:=by rcases hF with rfl | ⟨l,rfl⟩ <;> exact λ_=>trivial
 have hdep:F.depth=none:=by rcases hF with rfl | ⟨l,rfl⟩ <;> rfl
 have hcalls:∀ {f args w R},Calls P f args w R→CallsIn F 0 P f args w R:=by
  rcases hF with rfl | ⟨l,rfl⟩
  ·exact λh=>callsIn_wide.2 h
  ·exact λh=>(callsIn_wide (n:=0)).2 h
 have hrows:∀ {row args w R},Rows P row args w R→RowsIn F 0 P row args w R:=by
  rcases hF with rfl | ⟨l,rfl⟩
  ·exact λh c cs _=>by
    obtain ⟨v,w1,r,s⟩:=h c cs;exact ⟨v,w1,r,stepsIn_wide.2 s⟩
  ·exact λh c cs _=>by
    obtain ⟨v,w1,r,s⟩:=h c cs;exact ⟨v,w1,r,stepsIn_wide.2 s⟩
 refine ⟨λf _=>hfn f,?_⟩;rw [Oper.semAt_eq _ _ _ ho];unfold Oper.wp at h;generalize (execOp a.eval o).run P w=r at *;cases r with
 | ok nx w'=>
  cases nx with
  | value v=>exact h
  | skip=>exact h
  | defer d=>exact h
  | enter f args=>exact ⟨λhd=>(by rw [hdep] at hd;cases hd),hcalls h⟩
  | row row args=>exact ⟨λhd=>(by rw [hdep] at hd;cases hd),hrows h⟩
  | _=>exact h.elim
 | halt x w'=>
  cases x with
  | panic v=>exact h
  | _=>exact h.elim
def zhl (o:Oper):Bool:=match o.op with | .defer _=>false | _=>true
theorem zmw {o} (h:zhl o=true):∀ c,o.op≠.defer c:=λc e=>by simp [zhl,e] at h
theorem zf0 {P:Program} {F:Fence} (hF:F=Fence.wide∨∃ l,F=Fence.wide.inRound l) {ops:Array Oper} {Q0 Q':Exit→Act→World→Prop} (hno:∀ e a w,Q0 e a w→e = .normal) (hk:∀ a w,Q0 .normal a w→Q' .normal a w) :
  ∀ (l:List Oper) (a:Act) (w:World),(l.all zhl)=true→wpList P ops Q0 l a w→wpListIn F 0 P ops Q' l a w
 | [],a,w,_,h=>hk a w h
 | o::l,a,w,hd,h=>by
  simp only [uw,yc] at hd;simp only [wpList] at h;simp only [wpListIn];have hfn:∀ f,F.fn f:=by rcases hF with rfl | ⟨l,rfl⟩ <;> exact λ_=>trivial
  split <;> rename_i hw
  ·rw [if_pos hw] at h;rcases h with h | ⟨_,a',w',h⟩
   ·have hp:∀ c a w,¬ Q0 (.panic c) a w:=λc a w h=>by have:=hno _ _ _ h;cases this
    have ho:¬ LetsOut Q0:=λ⟨a,w,h⟩=>by have:=hno _ _ _ h;cases this
    refine Oper.wpIn_wide hF (zmw hd.1) ?_;have ih:∀ a w,wpList P ops Q0 l a w→wpListIn F 0 P ops Q' l a w:=λa w h=>zf0 hF hno hk l a w hd.2 h
    unfold Oper.wp at *;generalize (execOp a.eval o).run P w=r at *;cases r with
    | ok nx w'=>
     cases nx <;> simp only [Oper.upon] at h ⊢
     case value u=>exact ih _ _ h
     case skip=>exact ih _ _ h
     case defer d=>exact ih _ _ h
     case enter f args=>
      refine Calls.mono h λe w'' he=>?_
      cases e with
      | returned u=>exact ih _ _ he
      | panicked c=>exact absurd he (hp _ _ _)
      | outgrown=>exact absurd he ho
     case row row args=>exact Rows.mono h λu w'' he=>ih _ _ he
    | halt x w'=>
     cases x <;> simp only [Oper.upon] at h ⊢
     case panic u=>exact absurd h (hp _ _ _)
   ·exact absurd (hno _ _ _ h) (by simp)
  ·rw [if_neg hw] at h;exact ⟨λf _=>hfn f,zf0 hF hno hk l _ _ hd.2 h⟩
structure OneI (P:Program) (C:Ctx) (ops:Array Oper) (o:Oper) (s s':St):Prop where
 run:∀ bs a w,R C bs s a w→∀ (Q:Exit→Act→World→Prop) (i:Nat) (K:Act→World→Prop),ops[i]? = some o→(∀ a w,(∃ bs,R C bs s' a w)→K a w)→wpOpIn Fence.wide 0 P ops Q i K a w
structure TriI (P:Program) (C:Ctx) (ops:Array Oper) (fuel:Nat) (listed:Array Bool) (Q:Exit→St→Prop) (s:St):Prop where
 run:∀ bs a w,R C bs s a w→wpAnyIn Fence.wide 0 P .any ops (QR C Q) fuel listed a w
inductive NextI (P:Program) (C:Ctx) (ops:Array Oper) (fuel:Nat) (listed:Array Bool) (Q:Exit→St→Prop) (s:St):List Nat→Prop
 | nil:NextI P C ops fuel listed Q s []
 | cons {i:Nat} {o:Oper} {s':St} {is:List Nat}:ops.toList[i]? = some o→OneI P C ops o s s'→TriI P C ops fuel (listed.setIfInBounds i true) Q s'→NextI P C ops fuel listed Q s is→NextI P C ops fuel listed Q s (i::is)
structure Wants (C:Ctx) (ops:Array Oper) (o:Oper) (s:St) (b:Bool):Prop where
 run:∀ bs a w,R C bs s a w→Region.wanted o (yielded ops a.tmps)=b
theorem Wants.none {C ops o s} (h:o.guard=none):Wants C ops o s true:=⟨λ_ _ _ _=>by simp [Region.wanted,h]⟩
end
def Serves (C:Ctx) (l:Nat) (rec:Loop) (T1:List (Nat×V)):Prop:=C.own0 l∧∀ q∈T1,(q.2,rec.tmps.getD q.1 Go.undef)∈C.gh
theorem zp9 {T t v} (h:look t T=some v):(t,v)∈T:=by
 induction T with
 | nil=>simp [look] at h
 | cons p r ih=>
  obtain ⟨u,x⟩:=p;simp only [za7] at h;split at h <;> rename_i e
  ·cases h;subst e;simp
  ·exact uz _ (ih h)
theorem OneI.yield {G1 G2:Globs} {l:Nat} {rec:Loop} {P:Program} {C:Ctx} {ops:Array Oper} {o:Oper} {T:List (Nat×V)} {H H':List Blk} {x y:Operand} {tys:Array TypeId} {d:D} {p N ia ib ic:Nat} {ra rb:List Oper} {T1:List (Nat×V)}
  (hGs : @Globs.gs G2=(l,.loop rec)::@Globs.gs G1) (hGE:∀ q∈@Globs.gs G1,q.1≠l) (hrec:rec.state = .ready∧rec.pending=none∧rec.params = #[p]∧rec.tmps.size=N) (hasg:rec.assign = .region ia ra.toArray false) (hbd:rec.body = .block ib (.region ic rb.toArray false))
  (hda:(ra.all zhl)=true) (hdb:(rb.all zhl)=true) (hs:Serves C l rec T1) (hTN:(T1.all λq=>Nat.blt q.1 N)=true) (hpN:Nat.blt p N=true) (hp1:(T1.all λq=>q.1 != p)=true)
  (ho:o.op = .call { callee:=.value x,args:=#[y],argTypes:=tys }) (hx:ev T x=some (.d (.fn (.yield l) [] []))) (hy:ev T y=some (.d d)) (hd:dstOK o.dst C.n=true)
  (hw : @Wants G2 C ops o ⟨T,H⟩ true) (hu:(T.all λq=>q.2.under H.length)=true) (hgn:Nat.ble C.gn H.length=true)
  (h:∀ (own0:Nat→Prop) (w:World) (gh:List (V×Value)),@TriL G1 P ⟨C.A0,own0,w,N,λ_ _=>False,gh,H.length,[]⟩ ra.toArray ra (λe s1=>e = .normal∧∀ (own0:Nat→Prop) (w:World),
   @TriL G1 P ⟨C.A0,own0,w,N,λ_ _=>False,gh,H.length,[]⟩ rb.toArray rb (λe s2=>e = .normal∧s2.H=H') s1) ⟨(p,.d d)::T1,H⟩) :
  @OneI G2 P C ops o ⟨T,H⟩ ((⟨T,H'⟩:St).put o.dst (.d (.bool true))):=by
 obtain ⟨hst,hpe,hps,hsz⟩:=hrec;refine @OneI.mk G2 _ _ _ _ _ _ λbs a w hR Q i K hi hK=>?_
 have hwant:=@Wants.run G2 _ _ _ _ _ hw bs a w hR;have e1:=@R.ev G2 _ _ _ _ _ hR _ _ hx;have e2:=@R.ev G2 _ _ _ _ _ hR _ _ hy;obtain ⟨⟨o1,o2,o3,o4,og⟩,rlen,rblk,rtmp,rdef,rsz,rfr,rnew,rgh⟩:=hR;simp only [V.rep,D.rep,D.reps] at e1;obtain ⟨vs,us,e1,hv0,hu0⟩:=e1;have hv0:vs = #[]:=by simpa using hv0
 have hu0:us = #[]:=by simpa using hu0
 subst hv0 hu0;obtain ⟨hlO,hL⟩:=og (l,.loop rec) (by rw [hGs];simp);simp only at hlO hL;have hlt:l<w.heap.size:=(ym.1 hL).1;unfold wpOpIn;simp only [hi,hwant,if_true];refine ⟨λ_ _=>trivial,?_⟩;obtain ⟨tm1,htm1⟩:∃ tm1,tm1=rec.tmps.setIfInBounds p (a.eval y):=⟨_,rfl⟩
 have hrun:(execOp a.eval o).run P w = .ok (.round l rec.fn tm1 rec.assign rec.body) w:=by
  have hyl:=run_yield (P:=P) (args:=#[a.eval y]) hL (by rw [hps];rfl);rw [hps] at hyl;simp only [execOp,ho,resolve,e1,Deferred.ofValue,Sem.run_bind,Sem.run_pure,Result.andThen_ok,invoke];simpa [htm1] using hyl
 rw [show (o.semAt Fence.wide.round a.eval)=execOp a.eval o from rfl,hrun,Oper.uponIn_round];refine ⟨λh=>by simp [Fence.wide] at h,?_⟩;refine roundIn_of_wpIn trivial ?_;obtain ⟨gh1,hgh1⟩:∃ gh1,gh1=C.gh++vals a T T:=⟨_,rfl⟩
 have hgn:=yd hgn;have hGG:∀ q∈@Globs.gs G1,q∈@Globs.gs G2:=λq hq=>by rw [hGs];exact uz _ hq
 have hR1 : @R G1 ⟨C.A0,λb=>some b∈bs,w,N,λ_ _=>False,gh1,H.length,[]⟩ bs ⟨(p,.d d)::T1,H⟩ { tmps:=tm1,defers:=[] } w:=by
  have hpn:p<rec.tmps.size:=by rw [hsz];simpa using hpN
  refine @R.mk G1 _ _ _ _ _ (@OwnOK.mk G1 _ _ _ o1 o2 o3 o4 λq hq=>og q (hGG q hq)) rlen rblk (λt v hv=>?_) rfl (by rw [htm1];simpa using hsz) (Fr.refl _ _) (λb hb=>.inl hb) λq hq=>?_
  ·simp only [za7] at hv;split at hv <;> rename_i ht
   ·cases hv;subst ht;refine ⟨by rw [← hsz];exact hpn,?_⟩;rw [htm1,zeQ _ _ _ _ _ hpn,if_pos rfl];exact e2
   ·have hm:=zp9 hv;have h1:=hs.2 _ hm;have h2:=yr.1 hTN _ hm;refine ⟨by simpa using h2,?_⟩;rw [htm1,zeQ _ _ _ _ _ hpn,if_neg ht];exact (rgh _ h1).2
  ·rw [hgh1] at hq;rcases yE.1 hq with hq | hq
   ·exact ⟨V.under_mono hgn _ (rgh q hq).1,(rgh q hq).2⟩
   ·obtain ⟨t,h1,h2⟩:=zh8 hq;exact ⟨zin hu h1,by rw [h2];exact (rtmp t _ h1).2⟩
 rw [hasg];refine wpIn_region_lit ?_;refine zf0 (F:=Fence.wide.inRound l) (.inr ⟨l,rfl⟩) (Q0:=@QR G1 _ _) ?_ ?_ ra _ _ hda (@TriL.run G1 _ _ _ _ _ _ (h _ _ _) _ _ _ hR1)
 ·rintro e a w (⟨_,_,⟨h,_⟩,_⟩ | ⟨_,h⟩)
  ·exact h
  ·exact h.elim
 rintro a1 w1 (⟨bs1,s1,⟨_,hb⟩,hR1'⟩ | ⟨h,_⟩)
 case inr=>cases h
 simp only [Exit.then];have f1:Fr (λb=>some b∈bs) w w1:=by
  obtain ⟨_,_,_,_,_,_,f,_,_⟩:=hR1';exact f
 have n1:∀ b,some b∈bs1→some b∈bs∨w.heap.size≤b:=by
  obtain ⟨_,_,_,_,_,_,_,f,_⟩:=hR1';exact f
 have hlbs:¬ some l∈bs:=λh=>hlO (.inr h)
 have hL1:w1.heap[l]? = some (.loop rec):=(f1.block l hlt hlbs).trans hL;have hbr:=run_beginRound (P:=P) hL1 hst;refine ⟨_,hbr,?_⟩;obtain ⟨w2,hw2⟩:∃ w2,w2=w1.putObj l (.loop { rec with state:=.busy }):=⟨_,rfl⟩
 rw [← hw2];have t2:Turn w1 w2:=by rw [hw2];exact Turn.put hL1 rfl
 have hs2:w2.heap.size=w1.heap.size:=t2.size;have hlt1:l<w1.heap.size:=(ym.1 hL1).1;have hL2:w2.heap[l]? = some (.loop { rec with state:=.busy }):=by rw [hw2];exact World.putObj_heap_same hlt1
 have hput2:∀ q,q≠l→w2.heap[q]? = w1.heap[q]?:=λq hq=>by rw [hw2];exact World.putObj_heap_other hq
 have hR2 : @R G1 ⟨C.A0,λb=>some b∈bs1,w2,N,λ_ _=>False,gh1,H.length,[]⟩ bs1 s1 a1 w2:=by
  have hg1 : @zdW G1 (Own C.A0 bs1) w1:=by
   obtain ⟨⟨_,_,_,_,g⟩,_⟩:=hR1';exact g
  exact R.turn hR1' t2 rfl rfl rfl rfl rfl (Fr.refl _ _) (λb hb=>.inl hb) λq hq=>⟨(hg1 q hq).1,by rw [hput2 _ (hGE q hq)];exact (hg1 q hq).2⟩
 rw [hbd];refine wpIn_block (wpIn_region_lit ?_);refine zf0 (F:=Fence.wide.inRound l) (.inr ⟨l,rfl⟩) (Q0:=@QR G1 _ _) ?_ ?_ rb _ _ hdb (@TriL.run G1 _ _ _ _ _ _ (hb _ _) _ _ _ hR2)
 ·rintro e a w (⟨_,_,⟨h,_⟩,_⟩ | ⟨_,h⟩)
  ·exact h
  ·exact h.elim
 rintro a2 w3 (⟨bs2,s2,⟨_,hH⟩,hR3⟩ | ⟨h,_⟩)
 case inr=>cases h
 simp only [Exit.inBlock,roundPost];have f3:Fr (λb=>some b∈bs1) w2 w3:=by
  obtain ⟨_,_,_,_,_,_,f,_,_⟩:=hR3;exact f
 have n3:∀ b,some b∈bs2→some b∈bs1∨w2.heap.size≤b:=by
  obtain ⟨_,_,_,_,_,_,_,f,_⟩:=hR3;exact f
 have hlbs1:¬ some l∈bs1:=λh=>(n1 l h).elim hlbs (λh=>by omega)
 have hlbs2:¬ some l∈bs2:=λh=>(n3 l h).elim hlbs1 (λh=>by omega)
 have hL3:w3.heap[l]? = some (.loop { rec with state:=.busy }):=(f3.block l (by omega) hlbs1).trans hL2;have her:=run_endRound (P:=P) none hL3;have hback:({ { rec with state:=LoopState.busy } with state:=if (none:Option Code).isNone then LoopState.ready else LoopState.done,pending:=none }:Loop)=rec:=by
  cases rec;simp only at hst hpe;subst hst hpe;rfl
 rw [hback] at her;refine ⟨_,_,her,hK _ _ ⟨bs2,?_⟩⟩;obtain ⟨w4,hw4⟩:∃ w4,w4=w3.putObj l (.loop rec):=⟨_,rfl⟩
 rw [← hw4];have t4:Turn w3 w4:=by rw [hw4];exact Turn.put hL3 rfl
 have hlt3:l<w3.heap.size:=(ym.1 hL3).1;have hL4:w4.heap[l]? = some (.loop rec):=by rw [hw4];exact World.putObj_heap_same hlt3
 have hput4:∀ q,q≠l→w4.heap[q]? = w3.heap[q]?:=λq hq=>by rw [hw4];exact World.putObj_heap_other hq
 obtain ⟨⟨p1,p2,p3,p4,pg⟩,plen,pblk,ptmp,pdef,psz,pfr,pnew,pgh⟩:=hR3;have hRC : @R G2 C bs2 ⟨T,H'⟩ a w4:=by
  subst hH;refine @R.mk G2 _ _ _ _ _ (@OwnOK.mk G2 _ _ _ p1 p2 (λb hb=>by rw [t4.size];exact p3 b hb) (λb hb=>by rw [t4.size];exact p4 b hb) λq hq=>?_) plen (λi k hk=>Blk.rep_turn t4 i k (pblk i k hk)) (λt v hv=>?_) rdef rsz ?_ (λb hb=>?_) λq hq=>?_
  ·rw [hGs] at hq;rcases yD.1 hq with rfl | hq
   ·exact ⟨λh=>h.elim (λh=>hlO (.inl h)) hlbs2,hL4⟩
   ·exact ⟨(pg q hq).1,by rw [hput4 _ (hGE q hq)];exact (pg q hq).2⟩
  ·exact ⟨(rtmp t v hv).1,V.rep_turn t4 _ _ (pgh _ (by rw [hgh1];exact List.mem_append_right _ (zhF hv hv))).2⟩
  ·have hfr1:Fr (λb=>some b∈bs∨b=l∨some b∈bs1) w w4:=by
    have g1:Fr (λb=>some b∈bs∨b=l∨some b∈bs1) w w1:=f1.mono λ_ _ h=>.inl h
    have g2:Fr (λb=>some b∈bs∨b=l∨some b∈bs1) w1 w2:=by rw [hw2];exact ⟨rfl,rfl,rfl,by simp,λb _ hn=>World.putObj_heap_other (λe=>hn (.inr (.inl e))),yn _⟩
    have g3:Fr (λb=>some b∈bs∨b=l∨some b∈bs1) w2 w3:=f3.mono λ_ _ h=>.inr (.inr h)
    have g4:Fr (λb=>some b∈bs∨b=l∨some b∈bs1) w3 w4:=by rw [hw4];exact ⟨rfl,rfl,rfl,by simp,λb _ hn=>World.putObj_heap_other (λe=>hn (.inr (.inl e))),yn _⟩
    exact ((g1.trans g2).trans g3).trans g4
   refine ⟨hfr1.os.trans rfr.os,hfr1.tape.trans rfr.tape,hfr1.output.trans rfr.output,ub rfr.size hfr1.size,λq hq hno=>?_,ub rfr.drawn hfr1.drawn⟩;refine (hfr1.block q (yJ hq rfr.size) λe=>?_).trans (rfr.block q hq hno);have hbs:¬ some q∈bs:=λh=>(rnew q h).elim hno (λh=>by omega)
   rcases e with e | e | e
   ·exact hbs e
   ·exact hno (by rw [e];exact hs.1)
   ·exact (n1 q e).elim hbs (λh=>by have:=rfr.size;omega)
  ·have hsz1:=f1.size;have hsz0:=rfr.size;rcases n3 b hb with h1 | h1
   ·rcases n1 b h1 with h1 | h1
    ·exact rnew b h1
    ·exact .inr (by omega)
   ·exact .inr (by omega)
  ·exact ⟨(rgh q hq).1,V.rep_turn t4 _ _ (pgh q (by rw [hgh1];exact List.mem_append_left _ hq)).2⟩
 exact @R.put G2 _ _ _ _ _ _ hRC (Fr.refl _ _) o.dst hd (.d (.bool true)) (.bool true) (zx.2 rfl)
theorem Tri.rangeFuncG {G0:Globs} {P:Program} {fnC:Func} {A:Nat→Prop} {w0:World} {n N p b0:Nat} {E:Ending→World→Prop} {RQ:St→Prop} {s0:St} {T:List (Nat×V)} {H:List Blk} {g:Operand} {x asg body tail:Code} {fi:FuncId} {fs cs:List D} {fn:Func} {c:Code} {Q:Exit→St→Prop} {K:List Blk→Prop}
  (hx0 : @Tri G0 P ⟨A,ze,w0,n,λ_ _=>False,[],0,[]⟩ x (λe s=>e = .normal∧s=⟨T,H⟩) s0) (hx:ev T g=some (.d (.fn (.func fi) fs cs))) (hc:callable P fi=true) (hf:P.funcs[fi]? = some fn) (hb:fn.body=some c) (hN:fn.ntmps=N) (hres:fn.results = #[])
  (hn:Nat.ble (fs.length+1+cs.length) N=true) (hu:(T.all λq=>q.2.under H.length)=true)
  (h:∀ (l Dd:Nat) (rec:Loop) (own0:Nat→Prop) (w:World) (gh:List (V×Value)) (G':Globs),l≠Dd→@Globs.gs G'=(l,.loop rec)::(Dd,.deferred (some []))::@Globs.gs G0→(∀ q∈@Globs.gs G0,q.1≠l)→(rec.state = .ready∧rec.pending=none∧rec.params = #[p]∧rec.tmps.size=n) →
   rec.assign=asg→rec.body=body→own0 l→(∀ t v,look t T=some v→(v,rec.tmps.getD t Go.undef)∈gh) →
   @Tri G' P ⟨A,own0,w,N,λ_ _=>False,gh,H.length,[]⟩ c (retV [] λ_ H2=>K H2) ⟨ze6 0 (fs.map .d++[.d (.fn (.yield l) [] [])]++cs.map .d),H⟩)
  (k:∀ (Dd:Nat) (H2:List Blk) (G':Globs),@Globs.gs G'=(Dd,.deferred (some []))::@Globs.gs G0→K H2→@Tri G' P ⟨A,ze,w0,n,λ_ _=>False,[],0,[{ target:=.collected Dd,args:=#[] }]⟩ tail (λe s=>e = .ret∧RQ s) ⟨T,H2⟩)
  (hEnd:∀ (s:St) (bs:List (Option Nat)) (a:Act) (w:World) (df:List Deferred),RQ s→@R G0 ⟨A,ze,w0,n,λ_ _=>False,[],0,df⟩ bs s a w→∃ u,(results fnC a.tmps).run P w = .ok u w∧E (.returned u) w) :
  @Tri G0 P ⟨A,ze,w0,n,λa' w'=>LeavesInM Fence.wide 0 P fnC a'.tmps (E) a'.defers .returning w',[],0,[]⟩ (.seq (.seq x (.block b0 (.rangeFunc g #[p] asg body))) tail) Q s0:=by
 subst hN;have hn:=yd hn;refine @Tri.mk G0 _ _ _ _ _ λbs a w' hR=>?_
 have hR0 : @R G0 ⟨A,ze,w0,n,λ_ _=>False,[],0,[]⟩ bs s0 a w':=by
  obtain ⟨q1,q2,q3,q4,q5,q6,q7,q8,q9⟩:=hR;exact @R.mk G0 _ _ _ _ _ q1 q2 q3 q4 q5 q6 q7 q8 q9
 refine wp_seq (wp_seq (Code.wp_mono ?_ (@Tri.run G0 _ _ _ _ _ hx0 bs a w' hR0)));rintro e a w3 (⟨bs,s,⟨rfl,rfl⟩,hR⟩ | ⟨_,hE⟩)
 case inr=>exact hE.elim
 simp only [Exit.then];clear hR0;have e1:=@R.ev G0 _ _ _ _ _ hR _ _ hx;have hRf:=λ{w'} (f:Fr ze w3 w')=>@R.put G0 _ _ _ _ _ _ hR f none rfl .junk Go.undef (by simp only [V.rep])
 obtain ⟨⟨o1,o2,o3,o4,og⟩,rlen,rblk,rtmp,rdef,rsz,rfr,rnew,rgh⟩:=hR;simp only [V.rep,D.rep] at e1;obtain ⟨vs,us,e1,hvs,hus⟩:=e1;refine (wpIn_wide (n:=0)).1 (wpIn_block (wpIn_rangeFunc ?_));intro fnid _;obtain ⟨rec,hrec⟩:∃ rec:Loop,rec = { state:=.ready,pending:=none,fn:=fnid,tmps:=a.tmps,params:=#[p],assign:=asg,body:=body,defers:=w3.heap.size }:=⟨_,rfl⟩
 obtain ⟨l,hl⟩:∃ l,l=w3.heap.size+1:=⟨_,rfl⟩
 obtain ⟨Dd,hDd⟩:∃ Dd,Dd=w3.heap.size:=⟨_,rfl⟩
 obtain ⟨w4,hw4⟩:∃ w4,(w3.alloc (.deferred (some []))).alloc (.loop rec)=w4:=⟨_,rfl⟩
 have hold:∀ q,q<w3.heap.size→w4.heap[q]? = w3.heap[q]?:=λq hq=>by rw [← hw4];exact (Below.heap_alloc _ _ q (by simp;omega)).trans (Below.heap_alloc _ _ q hq)
 have hL4:w4.heap[l]? = some (.loop rec):=by rw [← hw4,hl];have:=World.alloc_heap_new (w3.alloc (.deferred (some []))) (.loop rec);rwa [World.size_alloc] at this
 have hD4:w4.heap[Dd]? = some (.deferred (some [])):=by rw [← hw4,hDd];exact (Below.heap_alloc _ _ _ (by simp)).trans (World.alloc_heap_new w3 _)
 have hs4:w4.heap.size=w3.heap.size+2:=by rw [← hw4];simp
 have hfr4:Fr ze w3 w4:=by
  rw [← hw4];exact (⟨rfl,rfl,rfl,by simp,λb hb _=>Below.heap_alloc _ _ b hb,yn _⟩:Fr ze w3 (w3.alloc (.deferred (some [])))).trans ⟨rfl,rfl,rfl,by simp,λb hb _=>Below.heap_alloc _ _ b hb,yn _⟩
 refine ⟨l,[{ target:=.collected Dd,args:=#[] }],w4,{ target:=.fn (.func fi) us,args:=vs++#[.func (.yield l) #[] #[]] },w4,fi,vs++#[.func (.yield l) #[] #[]]++us,w4,?_,?_,λ_ _=>trivial,?_,λh=>by simp [Fence.wide] at h,?_⟩
 ·rw [← hw4,hl,hDd,hrec];exact run_enterLoop_outer _ _ _ _ _
 ·have ek:∀ v,a.eval (.const v)=v:=λ_=>rfl
  simp [resolve,e1,Deferred.ofValue,ek]
 ·simp only [invoke];exact zb1 hc _ w4
 have hR4:=hRf hfr4;obtain ⟨⟨q1,q2,q3,q4,qg⟩,qlen,qblk,qtmp,qdef,qsz,qfr,qnew,_⟩:=hR4;have hlA:¬ Own A bs l:=λh=>by
  rcases h with h | h
  ·have:=o4 l h;omega
  ·have:=o3 l h;omega
 have hDA:¬ Own A bs Dd:=λh=>by
  rcases h with h | h
  ·have:=o4 Dd h;omega
  ·have:=o3 Dd h;omega
 have hgl:∀ q∈@Globs.gs G0,q.1<w3.heap.size:=λq hq=>(ym.1 (og q hq).2).1
 obtain ⟨G',hG'⟩:∃ G':Globs,@Globs.gs G'=(l,.loop rec)::(Dd,.deferred (some []))::@Globs.gs G0:=⟨⟨_⟩,rfl⟩
 obtain ⟨GD,hGD⟩:∃ G':Globs,@Globs.gs G'=(Dd,.deferred (some []))::@Globs.gs G0:=⟨⟨_⟩,rfl⟩
 have hvl:=D.reps_len hvs;have hul:=D.reps_len hus;simp only [yw] at hvl hul;have hreps:V.reps (Own A bs) w4 bs H (fs.map .d++[.d (.fn (.yield l) [] [])]++cs.map .d) (vs++#[Value.func (.yield l) #[] #[]]++us:Array Value).toList:=by
  simp only [Array.toList_append];have key:∀ (ds:List D) (vs:List Value),D.reps (Own A bs) w4 ds vs→V.reps (Own A bs) w4 bs H (ds.map .d) vs:=by
   intro ds
   induction ds with
   | nil=>intro vs h;simpa only [D.reps,List.map_nil,V.reps] using h
   | cons d ds ih=>
    intro vs h;simp only [D.reps] at h;obtain ⟨v,vs',rfl,h1,h2⟩:=h;simp only [yI,V.reps,V.rep];exact ⟨v,vs',rfl,h1,ih _ h2⟩
  refine V.reps_append (V.reps_append (key _ _ (D.reps_ext hfr4 hvs)) ?_) (key _ _ (D.reps_ext hfr4 hus));simp [V.reps,V.rep,D.rep,D.reps]
 have hRi : @R G' ⟨A,λb=>some b∈bs∨b=l,w4,fn.ntmps,λ_ _=>False,vals a T T,H.length,[]⟩ bs ⟨ze6 0 (fs.map .d++[.d (.fn (.yield l) [] [])]++cs.map .d),H⟩ { tmps:=(vs++#[Value.func (.yield l) #[] #[]]++us)++Array.replicate (fn.ntmps - (vs++#[Value.func (.yield l) #[] #[]]++us).size) undef,defers:=[] } w4:=by
  have hsz:((vs++#[Value.func (.yield l) #[] #[]]++us)++Array.replicate (fn.ntmps - (vs++#[Value.func (.yield l) #[] #[]]++us).size) undef).size=fn.ntmps:=by simp;omega
  refine @R.mk G' _ _ _ _ _ (@OwnOK.mk G' _ _ _ q1 q2 q3 q4 λq hq=>?_) qlen qblk (λt v hv=>?_) rfl hsz (Fr.refl _ _) (λb hb=>.inl (.inl hb)) λq hq=>?_
  ·rw [hG'] at hq;rcases yD.1 hq with rfl | hq
   ·exact ⟨hlA,hL4⟩
   rcases yD.1 hq with rfl | hq
   ·exact ⟨hDA,hD4⟩
   ·exact qg q hq
  ·have:=zgu _ 0 _ ((vs++#[Value.func (.yield l) #[] #[]]++us)++Array.replicate (fn.ntmps - (vs++#[Value.func (.yield l) #[] #[]]++us).size) undef) hreps
    (λj hj=>by
     have hj':j<(vs++#[Value.func (.yield l) #[] #[]]++us).size:=by have:=hj;simp at this ⊢;omega
     rw [um,yX,Array.getElem?_append_left hj',List.getD,yV])
    (by rw [hsz];simp;omega) t v hv
   rw [hsz] at this;exact this
  ·obtain ⟨t,h1,h2⟩:=zh8 hq;exact ⟨zin hu h1,by rw [h2];exact (qtmp t _ h1).2⟩
 have htri:=h l Dd rec (λb=>some b∈bs∨b=l) w4 (vals a T T) G' (by omega) hG' (λq hq=>by have:=hgl q hq;omega) (by rw [hrec];exact ⟨rfl,rfl,rfl,rsz⟩) (by rw [hrec]) (by rw [hrec]) (.inr rfl) (λt v hv=>by rw [hrec];exact zhF hv hv);refine callsIn_wide.2 (calls_of_wp hf hb (Code.wp_mono ?_ (@Tri.run G' _ _ _ _ _ htri bs _ w4 hRi)));rintro e a' w5 (⟨bs',s',⟨he,ys,hys,hk⟩,hR5⟩ | ⟨_,hE⟩)
 case inr=>exact hE.elim
 obtain ⟨⟨p1,p2,p3,p4,pg⟩,plen,pblk,ptmp,pdef,psz,pfr,pnew,pgh⟩:=hR5;have hrun:(results fn a'.tmps).run P w5 = .ok (.tuple #[]) w5:=by
  rw [zdK,hres];simp [Sem.run_bind,Sem.run_pure]
 have hfin:rangePost Fence.wide 0 P l (Exit.inBlock b0 (Exit.then (tail.wp P (@QR G0 ⟨A,ze,w0,n,λa' w'=>LeavesInM Fence.wide 0 P fnC a'.tmps (E) a'.defers .returning w',[],0,[]⟩ Q)) (@QR G0 ⟨A,ze,w0,n,λa' w'=>LeavesInM Fence.wide 0 P fnC a'.tmps (E) a'.defers .returning w',[],0,[]⟩ Q))) { a with defers:=[{ target:=.collected Dd,args:=#[] }]++a.defers } (.returned (.tuple #[])) w5:=by
  have hL5:=(pg (l,.loop rec) (by rw [hG'];simp)).2;have hD5:=(pg (Dd,.deferred (some [])) (by rw [hG'];simp)).2;simp only at hL5 hD5;simp only [rangePost];refine ⟨none,w5.putObj l (.loop { rec with state:=.exhausted }),by have:=run_endLoop (P:=P) hL5 (by rw [hrec];simp);rw [this,hrec],?_⟩;simp only [Exit.inBlock,Exit.then];obtain ⟨w6,hw6⟩:∃ w6,w6=w5.putObj l (.loop { rec with state:=.exhausted }):=⟨_,rfl⟩
  rw [← hw6];have t6:Turn w5 w6:=by rw [hw6];exact Turn.put hL5 rfl
  have hput6:∀ q,q≠l→w6.heap[q]? = w5.heap[q]?:=λq hq=>by rw [hw6];exact World.putObj_heap_other hq
  have hlbs':∀ b,some b∈bs'→(some b∈bs∨b=l)∨w4.heap.size≤b:=pnew;have hR6 : @R GD ⟨A,ze,w0,n,λ_ _=>False,[],0,[{ target:=.collected Dd,args:=#[] }]⟩ bs' ⟨T,s'.H⟩ { a with defers:=[{ target:=.collected Dd,args:=#[] }]++a.defers } w6:=by
   refine @R.mk GD _ _ _ _ _ (@OwnOK.mk GD _ _ _ p1 p2 (λb hb=>by rw [t6.size];exact p3 b hb) (λb hb=>by rw [t6.size];exact p4 b hb) λq hq=>?_) plen (λi k hk=>Blk.rep_turn t6 i k (pblk i k hk)) (λt v hv=>?_) (by simp only;rw [rdef];rfl) rsz ?_ (λb hb=>?_) (λq hq=>(by cases hq))
   ·rw [hGD] at hq;have hq':q∈@Globs.gs G':=by rw [hG'];exact uz _ hq
    have hne:q.1≠l:=by
     rcases yD.1 hq with rfl | hq
     ·simp only;omega
     ·have:=hgl q hq;omega
    exact ⟨(pg q hq').1,by rw [hput6 _ hne];exact (pg q hq').2⟩
   ·exact ⟨(rtmp t v hv).1,V.rep_turn t6 _ _ (pgh _ (zhF hv hv)).2⟩
   ·have f5:Fr (λb=>some b∈bs∨b=l) w4 w5:=pfr;have f6:Fr (λb=>some b∈bs∨b=l) w5 w6:=by rw [hw6];exact ⟨rfl,rfl,rfl,by simp,λb _ hn=>World.putObj_heap_other (λe=>hn (.inr e)),yn _⟩
    have f46:=(hfr4.mono (W':=λb=>some b∈bs∨b=l) λ_ _ x=>x.elim).trans (f5.trans f6);have rfr':Fr ze w0 w3:=rfr;refine ⟨f46.os.trans rfr'.os,f46.tape.trans rfr'.tape,f46.output.trans rfr'.output,ub rfr'.size f46.size,λq hq hno=>?_,ub rfr'.drawn f46.drawn⟩;have:=rfr'.size;have hq:q<w0.heap.size:=hq;refine (f46.block q (by omega) λe=>?_).trans (rfr'.block q hq hno);rcases e with e | e
    ·have h3:ze q∨w0.heap.size≤q:=rnew q e;exact h3.elim (λx=>x) (λh=>by omega)
    ·omega
   ·have hz:w0.heap.size≤w3.heap.size:=rfr.size;rcases hlbs' b hb with (h1 | h1) | h1
    ·exact rnew b h1
    ·exact .inr (by simp only;omega)
    ·exact .inr (by simp only;omega)
  have hR6' : @R GD ⟨A,ze,w0,n,λ_ _=>False,[],0,[{ target:=.collected Dd,args:=#[] }]⟩ bs' ⟨T,s'.H⟩ { a with defers:=[{ target:=.collected Dd,args:=#[] }]++a.defers } w6:=hR6;refine Code.wp_mono ?_ (@Tri.run GD _ _ _ _ _ (k Dd s'.H GD hGD hk) _ _ _ hR6');rintro e a7 w7 (⟨bs7,s7,⟨rfl,hrq7⟩,hR7⟩ | ⟨_,hE⟩)
  case inr=>exact hE.elim
  refine .inr ⟨rfl,?_⟩;have hg7 : @zdW GD (Own A bs7) w7:=by
   obtain ⟨⟨_,_,_,_,g⟩,_⟩:=hR7;exact g
  have hdf7:a7.defers=[{ target:=.collected Dd,args:=#[] }]:=by
   obtain ⟨_,_,_,_,d,_⟩:=hR7;exact d
  have hfr7:Fr ze w0 w7:=by
   obtain ⟨_,_,_,_,_,_,f,_,_⟩:=hR7;exact f
  have hnew7:∀ b,some b∈bs7→ze b∨w0.heap.size≤b:=by
   obtain ⟨_,_,_,_,_,_,_,f,_⟩:=hR7;exact f
  have hD7:=(hg7 (Dd,.deferred (some [])) (by rw [hGD];simp)).2;simp only at hD7;obtain ⟨w8,hw8⟩:∃ w8,w8=w7.putObj Dd (.deferred none):=⟨_,rfl⟩
  have hput8:∀ q,q≠Dd→w8.heap[q]? = w7.heap[q]?:=λq hq=>by rw [hw8];exact World.putObj_heap_other hq
  have hfr8:Fr ze w0 w8:=by
   have hz:w0.heap.size≤w3.heap.size:=rfr.size;refine ⟨by rw [hw8];exact hfr7.os,by rw [hw8];exact hfr7.tape,by rw [hw8];exact hfr7.output,by rw [hw8];simpa using hfr7.size,λq hq hno=>(hput8 q (by omega)).trans (hfr7.block q hq hno),by rw [hw8];exact hfr7.drawn⟩
  have hR8:=R.turn (G':=G0) (C':=⟨A,ze,w0,n,λ_ _=>False,[],0,[{ target:=.collected Dd,args:=#[] }]⟩) hR7 (w':=w8) (by rw [hw8];exact Turn.put hD7 rfl) rfl rfl rfl rfl rfl hfr8 hnew7 λq hq=>by
   have hne:q.1≠Dd:=by have:=hgl q hq;omega
   have:=hg7 q (by rw [hGD];exact uz _ hq);exact ⟨this.1,by rw [hput8 _ hne];exact this.2⟩
  obtain ⟨u,hu1,hu2⟩:=hEnd s7 bs7 a7 w8 _ hrq7 hR8;show LeavesInM Fence.wide 0 P fnC a7.tmps (E) a7.defers .returning w7;rw [hdf7];exact ⟨by simp,.inl ⟨Dd,w8,rfl,by rw [hw8];exact run_takeDeferred hD7,u,hu1,hu2⟩⟩
 rcases he with rfl | rfl
 ·exact ⟨pdef,_,hrun,hfin⟩
 ·exact ⟨pdef,_,hrun,hfin⟩
section
variable [Globs]
structure NewSl (P:Program) (f:FuncId) (xs:List D) (t:TypeId) (k:Nat) (Y:List D→Prop):Prop where
 run:∀ (A:Nat→Prop) (w:World) (vs:Array Value),(∀ b,A b→b<w.heap.size)→zdW A w→D.reps A w xs vs.toList →
  Calls P f vs w (λe w'=>∃ u l cells,e = .returned u∧Y l∧Fr ze w w'∧w'.ownsRow w.heap.size t k u l.length cells∧D.flat (λb=>A b∨u.ownBlock=some b) w' k l cells)
def znB (A:Nat→Prop) (w:World) (t:TypeId) (k:Nat) (Y:List D→Prop) (e:Ending) (w':World):Prop:=
 ∃ u l cells,e = .returned u∧Y l∧Fr ze w w'∧w'.ownsRow w.heap.size t k u l.length cells∧D.flat (λb=>A b∨u.ownBlock=some b) w' k l cells
def zo2 (tt:Tmp) (t:TypeId) (k:Nat) (Y:List D→Prop) (s:St):Prop:=∃ i l,look tt s.T=some (.vec i l.length)∧s.H[i]? = some (.vec t k l)∧Y l
theorem zml {P:Program} {fn:Func} {tt:Tmp} {A:Nat→Prop} {w:World} {n:Nat} {esc gh gn df t k Y bs s a w'} (hrs:fn.results = #[.tmp tt]) (hq:zo2 tt t k Y s) (hR:R ⟨A,ze,w,n,esc,gh,gn,df⟩ bs s a w') :
  ∃ u,(results fn a.tmps).run P w' = .ok u w'∧znB A w t k Y (.returned u) w':=by
 obtain ⟨i,l,h1,h2,hY⟩:=hq;have hv:=(hR.tmp tt _ h1).2;simp only [V.rep,h2] at hv;obtain ⟨cells,g1,g2,g3⟩:=hv.2 trivial;refine ⟨a.tmps.getD tt undef,?_,⟨_,l,cells,rfl,hY,hR.fr,⟨g1.1,?_⟩,D.flat_fr (Fr.refl ze w') (λ_ x=>x.elim) (λb _ hb=>?_) _ _ g3⟩⟩
 ·rw [zdK,hrs];simp [zeE]
 ·rcases g1.2 with h | ⟨g,cap,cur,h4,_,h5⟩
  ·exact .inl h
  ·refine .inr ⟨g,cap,cur,h4,?_,h5⟩;have hg:bs[i]? = some (some g):=by rw [g2,h4];rfl
   exact (hR.new g (yt hg)).elim (λx=>x.elim) id
 ·rcases hb with hb | hb
  ·exact .inl hb
  ·exact .inr (by rw [hb] at g2;exact yt g2)
theorem zjM {A:Nat→Prop} {w:World} {fn:Func} {xs:List D} {vs:Array Value} {esc:Act→World→Prop} (hn:xs.length≤fn.ntmps) (hA:∀ b,A b→b<w.heap.size) (hG:zdW A w) (hr:D.reps A w xs vs.toList) :
  R ⟨A,ze,w,fn.ntmps,esc,[],0,[]⟩ [] ⟨params 0 xs,[]⟩ { tmps:=vs++Array.replicate (fn.ntmps - vs.size) undef,defers:=[] } w:=by
 have hlen:=D.reps_len hr;have hsz:(vs++Array.replicate (fn.ntmps - vs.size) undef).size=fn.ntmps:=by
  simp only [yw] at hlen;simp;omega
 refine ⟨⟨by simp,by simp,by simp,hA,hG.fr (Fr.refl ze w) (λ_ x=>x.elim) (λb _ hb=>hb.elim id (λh=>by simp at h))⟩,rfl,by simp,λt v hv=>?_,rfl,hsz,Fr.refl _ _,by simp,λp hp=>(by cases hp)⟩;have:=zew (A:=Own A []) (w:=w) (bs:=[]) (H:=[]) xs 0 vs.toList (vs++Array.replicate (fn.ntmps - vs.size) undef)
  (D.reps_fr (Fr.refl ze w) (λ_ x=>x.elim) (λb _ hb=>hb.elim id (λh=>by simp at h)) xs _ hr)
  (λj hj=>by
   have hj':j<vs.size:=by simpa using hj
   simp [yX,Array.getElem?_append,hj',List.getD])
  (by rw [hsz];simp only [yw] at hlen;simp;omega) t v hv
 rw [hsz] at this;exact this
theorem NewSl.of_tri {P:Program} {f:FuncId} {fn:Func} {c:Code} {xs:List D} {tt:Tmp} {t k Y} (hf:P.funcs[f]? = some fn) (hb:fn.body=some c) (hrs:fn.results = #[.tmp tt]) (hn:xs.length≤fn.ntmps)
  (h:∀ A w,Tri P ⟨A,ze,w,fn.ntmps,λ_ _=>False,[],0,[]⟩ c (λe s=>e = .ret∧zo2 tt t k Y s) ⟨params 0 xs,[]⟩):NewSl P f xs t k Y:=by
 refine ⟨λA w vs hA hG hr=>?_⟩;refine calls_of_wp hf hb (Code.wp_mono ?_ ((h A w).run [] _ w (zjM hn hA hG hr)));rintro e a' w' (⟨bs',s',⟨rfl,hq⟩,hR⟩ | ⟨_,hE⟩)
 case inr=>exact hE.elim
 obtain ⟨u,hu1,hu2⟩:=zml (P:=P) hrs hq hR;exact ⟨hR.defers,u,hu1,hu2⟩
theorem zlr {P:Program} {f:FuncId} {fn:Func} {c:Code} {xs:List D} {A:Nat→Prop} {w:World} {vs:Array Value} {E:Ending→World→Prop} (hf:P.funcs[f]? = some fn) (hb:fn.body=some c) (hn:xs.length≤fn.ntmps) (hA:∀ b,A b→b<w.heap.size) (hG:zdW A w) (hr:D.reps A w xs vs.toList)
  (h:Tri P ⟨A,ze,w,fn.ntmps,λa' w'=>LeavesInM Fence.wide 0 P fn a'.tmps E a'.defers .returning w',[],0,[]⟩ c (λ_ _=>False) ⟨params 0 xs,[]⟩):Calls P f vs w E:=by
 have main:CallsIn Fence.wide 0 P f vs w E:=by
  refine callsIn_of_wp_marks hf hb trivial (wpIn_wide.2 (Code.wp_mono ?_ (h.run [] _ w (zjM hn hA hG hr)))) rfl;rintro e a' w' (⟨bs',s',hq,hR⟩ | ⟨rfl,hE⟩)
  ·exact hq.elim
  ·exact hE
 exact callsIn_wide.1 main
variable {P:Program} {C:Ctx} {ops:Array Oper} {o:Oper} {rest:List Oper} {Q:Exit→St→Prop} {T:List (Nat×V)} {H:List Blk} {e:Operand→Option V}
theorem TriL.callFresh {f args tys xs t k Y d} (hg:o.guard=none) (ho:o.op = .call { callee:=.value (.func f),args:=args,argTypes:=tys }) (hd:o.dst=some d) (hdn:Nat.blt d C.n=true) (hc:callable P f=true) (ha:evs (ev T) args.toList=some xs) (hp:NewSl P f xs t k Y)
  (kk:∀ l,Y l→TriL P C ops rest Q ⟨(d,.vec H.length l.length)::T,H++[.vec t k l]⟩):TriL P C ops (o::rest) Q ⟨T,H⟩:=by
 refine ⟨λbs a w hR=>wpList_plain hg λK hK=>?_⟩;have hk:∀ k,a.eval (.func k) = .func (.func k) #[] #[]:=λ_=>rfl
 have hrun:(execOp a.eval o).run P w = .ok (.enter f (args.map a.eval)) w:=by
  simp only [execOp,ho,resolve,hk,Deferred.ofValue,Sem.run_bind,Sem.run_pure,Result.andThen_ok,invoke];simpa using zb1 hc (args.map a.eval) w
 have hreps:D.reps (Own C.A0 bs) w xs (args.map a.eval).toList:=by
  have:=zeO (A:=Own C.A0 bs) (w:=w) (bs:=bs) (H:=H) (f:=a.eval) ha (λx _ y hy=>hR.ev hy);simpa using this
 have hAlt:∀ b,Own C.A0 bs b→b<w.heap.size:=λb hb=>hb.elim (hR.own.foreign b) (hR.own.lt b)
 have hlen:=hR.len;simp only at hlen;refine Oper.wp_of_runs (K:=λu w'=>∃ l cells,Y l∧Fr ze w w'∧w'.ownsRow w.heap.size t k u l.length cells∧D.flat (λb=>Own C.A0 bs b∨u.ownBlock=some b) w' k l cells) ?_ λu w' ⟨l,cells,hY,hf,hown,hfl⟩=>?_
 ·rw [hrun];refine (hp.run (Own C.A0 bs) w (args.map a.eval) hAlt hR.own.glob hreps).mono ?_;rintro e' w' ⟨u,l,cells,he,h1,h2,h3,h4⟩;exact ⟨u,he,l,cells,h1,h2,h3,h4⟩
 ·have hbl:∃ bs',R C bs' ⟨(d,.vec H.length l.length)::T,H++[.vec t k l]⟩ (a.put o.dst u) w':=by
   rcases hown.2 with ⟨hnil,h0⟩ | ⟨g,cap,cur,hu,hbase,hheap,hrest⟩
   ·have h1:R C (bs++[none]) ⟨T,H++[.vec t k l]⟩ a w':=by
     have:=hR.put hf none rfl (v:=.junk) (u:=undef) (by simp only [V.rep]);exact R.snocNone (k:=.vec t k l) this λ_ _ _=>by simp only [Blk.rep]
    refine ⟨bs++[none],?_⟩;have:=h1.put (Fr.refl _ _) (some d) (by simpa [dstOK] using hdn) (v:=.vec H.length l.length) (u:=u) (by
     simp only [V.rep];rw [yq (yn _)];simp only [uD,yY];refine ⟨yn _,λ_=>⟨cells,⟨hown.1,.inl ⟨hnil,h0⟩⟩,by rw [← hlen,hnil];simp [Value.ownBlock],D.flat_fr (Fr.refl ze w') (λ_ x=>x.elim) (λb _ hb=>.inl ?_) _ _ hfl⟩⟩;rcases hb with hb | hb
     ·exact .inl hb
     ·rcases yE.1 hb with hb | hb
      ·exact .inr hb
      ·simp at hb)
    rw [hd];exact this
   ·have hgA:¬ C.A0 g:=λh=>absurd (hR.own.foreign g h) (by omega)
    have hgl:g<w'.heap.size:=(ym.1 hheap).1;have h1:R { C with A0:=λc=>C.A0 c∨c=g } bs ⟨T,H⟩ a w':=
     hR.own_more (A:=λc=>C.A0 c∨c=g) hf (λb hb hb'=>hb'.elim id (λe=>by omega)) (λb hb=>by
      rcases hb with hb | rfl
      ·exact yJ (hR.own.foreign b hb) hf.size
      ·exact hgl)
    have h2:=R.adoptVec (C:=C) t k l h1 hheap hgA (ub hR.fr.size hbase);refine ⟨bs++[some g],?_⟩;have:=h2.put (Fr.refl _ _) (some d) (by simpa [dstOK] using hdn) (v:=.vec H.length l.length) (u:=u) (by
     simp only [V.rep];rw [yq (yn _)];simp only [uD,yY];refine ⟨yn _,λ_=>⟨cells,⟨hown.1,.inr ⟨g,cap,cur,hu,yp _,hheap,hrest⟩⟩,by rw [← hlen,hu];simp [Value.ownBlock],D.flat_fr (Fr.refl ze w') (λ_ x=>x.elim) (λb _ hb=>?_) _ _ hfl⟩⟩;rcases hb with hb | hb
     ·exact .inl (.inl hb)
     ·rcases yE.1 hb with hb | hb
      ·exact .inl (.inr hb)
      ·simp only [yB,yi] at hb;subst hb;exact .inr (by rw [hu];rfl))
    rw [hd];exact this
  obtain ⟨bs',hR'⟩:=hbl;exact hK _ _ ((kk l hY).run bs' _ _ hR')
theorem zmW {s s'} (h:OneI P C ops o s s') {bs a w} (hR:R C bs s a w) {i:Nat} (hi:ops[i]? = some o) {Q':Exit→Act→World→Prop} (hk:∀ a w,(∃ bs,R C bs s' a w)→wpListIn Fence.wide 0 P ops Q' rest a w):wpListIn Fence.wide 0 P ops Q' (o::rest) a w:=by
 have h1:=h.run bs a w hR Q' i _ hi hk;unfold wpOpIn at h1;simp only [hi] at h1;simp only [wpListIn];exact h1
theorem Tri.regionY {s id} {l:List Oper} (n:Nat) (s1 s2:St) {o:Oper} (ho:l[n]? = some o) (h1:TriL P C l.toArray (l.take n) (After s1) s) (h2:OneI P C l.toArray o s1 s2) (h3:TriL P C l.toArray (l.drop (n+1)) (λe s=>e = .normal∧Q .normal s) s2) (hesc:∀ a w,¬ C.esc a w:=by exact λ_ _ h=>h):Tri P C (.region id l.toArray false) Q s:=by
 refine ⟨λbs a w hR=>(wpIn_wide (n:=0)).1 (wpIn_region_lit ?_)⟩;have hn:n<l.length:=(yb.1 ho).1;have hl:l=l.take n++o::l.drop (n+1):=by
  have e1:=(ux n l).symm;rw [List.drop_eq_getElem_cons hn] at e1;have e2:l[n]=o:=(yb.1 ho).2;rw [e2] at e1;exact e1
 have hio:l.toArray[n]? = some o:=by simpa using ho
 have hpre:=h1.run bs a w hR;have key:wpListIn Fence.wide 0 P l.toArray (QR C Q) (l.take n++o::l.drop (n+1)) a w:=by
  refine zd3 (Q0:=QR C (After s1)) ?_ ?_ _ _ _ hpre
  ·rintro e a w (⟨_,_,⟨h,_⟩,_⟩ | ⟨_,h⟩)
   ·exact h
   ·exact absurd h (hesc _ _)
  ·rintro a w (⟨bs',s',⟨_,rfl⟩,hR'⟩ | ⟨h,_⟩)
   case inr=>cases h
   refine zmW h2 hR' hio λa w ⟨bs2,hR2⟩=>?_
   have h4:=h3.run bs2 a w hR2;have:=zd3 (P:=P) (n:=0) (Q0:=QR C (λe s=>e = .normal∧Q .normal s)) (Q':=QR C Q) (post:=[]) (ops:=l.toArray) (by
    rintro e a w (⟨_,_,⟨h,_⟩,_⟩ | ⟨_,h⟩)
    ·exact h
    ·exact absurd h (hesc _ _)) (by
    rintro a w (⟨bs',s',⟨_,hq⟩,hR'⟩ | ⟨h,_⟩)
    ·exact .inl ⟨bs',s',hq,hR'⟩
    ·cases h) _ _ _ h4
   simpa using this
 rwa [← hl] at key
variable {κ β:Type} {ke:κ→Value} {ve:β→D}
def GMap.itblk {κ β:Type} (ke:κ→Value) (ve:β→D) (m:GMap κ β) (seen:List Nat):Blk:=.itd (m.es.map (·.1)) (m.es.map λe=>ke e.2.1) (m.es.map λe=>ve e.2.2) m.clock m.clock seen m.clock
theorem TriL.mapRangeD {t kt et:TypeId} {x:Operand} {d:Nat} {m:GMap κ β} (hg:o.guard=none) (ho:o.op = .range t x) (hd:o.dst=some d) (hdn:Nat.blt d C.n=true) (ht:P.underlying t=some (.map kt et)) (hx:ev T x=some (.d (GMap.dat ke ve m)))
  (kk:∀ m':GMap κ β,m'.es.map (·.2)=m.es.map (·.2)→TriL P C ops rest Q ⟨(d,.itp H.length)::T,H++[m'.itblk ke ve []]⟩):TriL P C ops (o::rest) Q ⟨T,H⟩:=by
 refine ⟨λbs a w hR=>wpList_plain hg λK hK=>?_⟩;have h0:=hR.ev hx;simp only [V.rep,GMap.dat,D.rep] at h0;obtain ⟨b,es,cl,h2,hnA,hlt,hh,hk,hwf,hreps⟩:=h0;have hlen:es.toList.length=m.es.length:=by have:=congrArg List.length hk;simpa using this
 have hf:(((es.toList.map (·.born)).zip (m.es.map (·.2))).map (·.1))=es.toList.map (·.born):=List.map_fst_zip (by simp [hlen]);have hs:(((es.toList.map (·.born)).zip (m.es.map (·.2))).map (·.2))=m.es.map (·.2):=List.map_snd_zip (by simp [hlen]);obtain ⟨m',hm'⟩:∃ m':GMap κ β,m'.es=(es.toList.map (·.born)).zip (m.es.map (·.2))∧m'.clock=cl:=⟨⟨(es.toList.map (·.born)).zip (m.es.map (·.2)),cl,hf.symm▸hwf⟩,rfl,rfl⟩
 have hsm:m'.es.map (·.2)=m.es.map (·.2):=by rw [hm'.1,hs]
 have e1:m'.es.map (λe=>ke e.2.1)=m.es.map (λe=>ke e.2.1):=by
  have:=congrArg (List.map λp:κ×β=>ke p.1) hsm;simpa [uu,Function.comp_def] using this
 have e2:m'.es.map (λe=>ve e.2.2)=m.es.map (λe=>ve e.2.2):=by
  have:=congrArg (List.map λp:κ×β=>ve p.2) hsm;simpa [uu,Function.comp_def] using this
 have hrun:(execOp a.eval o).run P w = .ok (.value (.pointer (some ⟨w.heap.size,0,none⟩))) (w.alloc (.mapIter (some b) cl #[] cl)):=by
  simp only [execOp,ho,h2,Sem.run_bind,run_range_map w t kt et b es cl ht hh,Result.andThen_ok,Sem.run_pure]
 unfold Oper.wp;rw [hrun];simp only [Oper.upon];have hl:=hR.len;simp only at hl;have hfr:Fr ze w (w.alloc (.mapIter (some b) cl #[] cl)):=⟨rfl,rfl,rfl,by simp,λc hc _=>Below.heap_alloc w _ c hc,yn _⟩
 have hA:∀ c,c<w.heap.size→Own C.A0 (bs++[some w.heap.size]) c→Own C.A0 bs c:=λc hc hc'=>by
  rcases hc' with hc' | hc'
  ·exact .inl hc'
  ·rcases yE.1 hc' with hc' | hc'
   ·exact .inr hc'
   ·simp only [yB,yi] at hc';omega
 have h3:=hR.newObj (.mapIter (some b) cl #[] cl) (m'.itblk ke ve []) (by
  simp only [GMap.itblk,Blk.rep];exact ⟨w.heap.size,b,es,by rw [← hl];simp,λh=>hnA (hA b hlt h),yJ hlt hfr.size,by rw [hfr.block b hlt (λx=>x),hm'.2];exact hh,by rw [hm'.1,hf],by rw [e1];exact hk,by rw [e2];exact D.reps_fr hfr (λ_ x=>x.elim) hA _ _ hreps,by rw [hm'.2];exact heap_alloc_new w _⟩)
 have:=h3.put (Fr.refl _ _) (some d) (by simpa [dstOK] using hdn) (v:=.itp H.length) (u:=.pointer (some ⟨w.heap.size,0,none⟩)) (by
  simp only [V.rep];rw [yq (yn _)];simp only [uD,yY,GMap.itblk];exact ⟨w.heap.size,by rw [← hl];simp,rfl⟩)
 rw [hd];exact hK _ _ ((kk m' hsm).run _ _ _ this)
theorem TriL.mapNextD {x} {i d:Nat} {seen:List Nat} {m:GMap κ β} {kd:κ→D} (hkd:∀ k,IsV (kd k) (ke k)) (hg:o.guard=none) (ho:o.op = .next x false) (hd:o.dst=some d) (hdn:Nat.blt d C.n=true) (hx:ev T x=some (.itp i)) (hi:H[i]? = some (m.itblk ke ve seen))
  (hend:(∀ e∈m.es,seen.contains e.1=true)→TriL P C ops rest Q ⟨(d,.d (.tup [.bool false]))::T,H⟩)
  (hstep:∀ e∈m.es,seen.contains e.1=false→TriL P C ops rest Q ⟨(d,.d (.tup [.bool true,kd e.2.1,ve e.2.2]))::T,H.set i (m.itblk ke ve (seen++[e.1]))⟩):TriL P C ops (o::rest) Q ⟨T,H⟩:=by
 refine ⟨λbs a w hR=>wpList_plain hg λK hK=>?_⟩;have h0:=hR.ev hx;have hbi:=hR.blk i _ hi;simp only [GMap.itblk,Blk.rep] at hbi;obtain ⟨b,bm,es,k1,gnA,glt,g2,g3,g4,g5,k3⟩:=hbi;simp only [V.rep,hi,GMap.itblk] at h0;obtain ⟨b',hb',h2⟩:=h0;obtain rfl:b=b':=by rw [k1] at hb';simpa using hb'
 have hlen:es.toList.length=m.es.length:=by have:=congrArg List.length g3;simpa using this
 have hget:∀ (q:Nat) (y:MapEntry),es.toList[q]? = some y→∃ e,m.es[q]? = some e∧e.1=y.born∧ke e.2.1=y.key:=by
  intro q y hy;have hq:q<m.es.length:=by rw [← hlen];exact (yb.1 hy).1
  refine ⟨m.es[q],yo hq,?_,?_⟩
  ·have h:=congrArg (λl=>l[q]?) g3;simp only [yR,hy,yo hq,yK,yi] at h;exact h.symm
  ·have h:=congrArg (λl=>l[q]?) g4;simp only [yR,hy,yo hq,yK,yi] at h;exact h.symm
 have hnext:=run_next_at (P:=P) w o.type b bm m.clock m.clock seen.toArray es m.clock k3 g2 (λy hy=>by
  obtain ⟨q,hq⟩:=List.getElem?_of_mem hy;obtain ⟨e,he,h1,_⟩:=hget q y hq;rw [← h1];exact m.wf.lt _ (yO.2 ⟨e,yt he,rfl⟩)) (yn _)
 unfold Oper.wp;have hex:(execOp a.eval o).run P w=((Instr.next (.pointer (some ⟨b,0,none⟩)) false o.type).run P w).andThen λv w'=>.ok (.value v) w':=by
  simp only [execOp,ho,h2,Sem.run_bind,Sem.run_pure]
 rw [hex];rcases hnext with ⟨hz,hrun⟩ | ⟨y,hy,w1,hw1,hrun⟩
 ·rw [hrun];simp only [Result.andThen_ok,Oper.upon];refine hK _ _ ((hend ?_).run bs _ _ ?_)
  ·have hl0:(leftOf es seen.toArray).toList=[]:=y7 (by simpa using hz);rw [zfJ] at hl0;intro e he;obtain ⟨q,hq⟩:=List.getElem?_of_mem he;have hq2:q<es.toList.length:=by rw [hlen];exact (yb.1 hq).1
   obtain ⟨e',he',h1,_⟩:=hget q es.toList[q] (yo hq2);rw [hq] at he';cases he';have:=(uI.1 hl0) es.toList[q] (yj hq2);rw [← h1] at this;simpa using this
  ·have:=hR.put (Fr.refl _ _) (some d) (by simpa [dstOK] using hdn) (v:=.d (.tup [.bool false])) (u:=.tuple #[.bool false]) (by simp only [V.rep,D.rep];exact ⟨#[.bool false],rfl,by simp [D.reps,D.rep]⟩);rw [hd];exact this
 ·rw [hrun];simp only [Result.andThen_ok,Oper.upon];rw [zfJ] at hy;obtain ⟨hy1,hy2⟩:=List.mem_filter.1 hy;obtain ⟨q,hq⟩:=List.getElem?_of_mem hy1;obtain ⟨e,he,h1,h3⟩:=hget q y hq;refine hK _ _ ((hstep e (yt he) (by rw [h1];simpa using hy2)).run bs _ _ ?_);have hR1:R C bs ⟨T,H⟩ a w1:=by
   rcases hw1 with rfl | rfl
   ·exact hR
   ·exact hR.drew
  have hheap:w1.heap=w.heap:=by rcases hw1 with rfl | rfl <;> rfl
  have hlt:b<w1.heap.size:=by rw [hheap];exact (ym.1 k3).1
  have hfr:Fr (λc=>some b=some c) w1 (ChangeMaps.setBlock w1 b (.mapIter (some bm) m.clock (seen.toArray.push y.born) m.clock)):=
   ⟨rfl,rfl,rfl,by simp [ChangeMaps.setBlock],λc _ hno=>by simp [ChangeMaps.setBlock,Array.getElem?_setIfInBounds_ne (λe:b=c=>hno (by rw [e]))],yn _⟩
  have hset:=zlX k1;have hne:bm≠b:=λh=>gnA (by rw [h];exact .inr (yt k1))
  have hWA:∀ c,some b=some c→Own C.A0 bs c:=λc hc=>.inr (by rw [← hc];exact yt k1)
  have hfr0:Fr ze w w1:=by
   rcases hw1 with rfl | rfl
   ·exact Fr.refl _ _
   ·exact (Fr.refl ze w).drew
  have hupd:=R.upd (y:=m.itblk ke ve (seen++[e.1])) (c':=some b) hR1 hi k1 (by simp [GMap.itblk,Compat]) hfr (.inl rfl) (by
   simp only [GMap.itblk,Blk.rep];refine ⟨b,bm,es,by rw [hset];exact k1,by rw [hset];exact gnA,yJ (by rw [hheap];exact glt) hfr.size,by rw [hfr.block bm (by rw [hheap];exact glt) (λh=>hne (by cases h;rfl)),hheap];exact g2,g3,g4,D.reps_fr hfr hWA (λc _ hc=>by rw [hset] at hc;exact hc) _ _ (D.reps_ext hfr0 g5),by simp [ChangeMaps.setBlock,hlt,h1]⟩)
  rw [hset] at hupd;have hval:D.rep (Own C.A0 bs) (ChangeMaps.setBlock w1 b (.mapIter (some bm) m.clock (seen.toArray.push y.born) m.clock)) (ve e.2.2) y.val:=by
   obtain ⟨v,f1,f2⟩:=D.reps_get g5 q (ve e.2.2) (by simp [yR,he]);simp only [yR,hq,yK,yi] at f1;rw [f1];exact D.rep_fr hfr hWA (λ_ _ h=>h) _ _ (D.rep_ext hfr0 f2)
  have:=hupd.put (Fr.refl _ _) (some d) (by simpa [dstOK] using hdn) (v:=.d (.tup [.bool true,kd e.2.1,ve e.2.2])) (u:=.tuple #[.bool true,y.key,y.val]) (by
   simp only [V.rep,D.rep];exact ⟨_,rfl,by simp only [D.reps,D.rep];exact ⟨_,_,rfl,rfl,_,_,rfl,((hkd e.2.1).eq _ _ _).2 h3.symm,_,[],rfl,hval,rfl⟩⟩)
  rw [hd];exact this
theorem OpV.entryD {x i seen} {m:GMap κ β} {en:Nat×κ×β} {kd:κ→D} (hkd:∀ k,IsV (kd k) (ke k)) (ho:o.op = .entry x) (hx:e x=some (.itp i)) (hi:H[i]? = some (m.itblk ke ve (seen++[en.1]))) (he:en∈m.es) :
  OpV P o e H (.d (.tup [kd en.2.1,ve en.2.2])):=
 .of_same λA0 bs w f mm hf=>by
  have h0:=hf x (by simp [ho,Op.operands]) _ hx;have hbi:=mm.blk i _ hi;simp only [GMap.itblk,Blk.rep] at hbi;obtain ⟨b,bm,es,k1,gnA,glt,g2,g3,g4,g5,k3⟩:=hbi;simp only [V.rep,hi,GMap.itblk] at h0;obtain ⟨b',hb',h2⟩:=h0;obtain rfl:b=b':=by rw [k1] at hb';simpa using hb'
  obtain ⟨q,hq⟩:=List.getElem?_of_mem he;have hlen:es.toList.length=m.es.length:=by have:=congrArg List.length g3;simpa using this
  have hql:q<es.toList.length:=by rw [hlen];exact (yb.1 hq).1
  have hqe:=yo hql;have h1:es.toList[q].born=en.1:=by
   have h:=congrArg (λl=>l[q]?) g3;simpa only [yR,hq,hqe,yK,yi] using h
  have h3:es.toList[q].key=ke en.2.1:=by
   have h:=congrArg (λl=>l[q]?) g4;simpa only [yR,hq,hqe,yK,yi] using h
  have hent:=run_entry_at (P:=P) w b bm m.clock seen.toArray es m.clock es.toList[q] (by rw [k3,h1];simp) g2 (yj hql) (by rw [g3];exact m.wf.nd);obtain ⟨v,f1,f2⟩:=D.reps_get g5 q (ve en.2.2) (by simp [yR,hq]);simp only [yR,hqe,yK,yi] at f1;refine ⟨.tuple #[es.toList[q].key,es.toList[q].val],by simp only [execOp,ho,h2,Sem.run_bind,hent,Result.andThen_ok,Sem.run_pure],?_⟩;simp only [V.rep,D.rep];exact ⟨_,rfl,by simp only [D.reps,D.rep];exact ⟨_,_,rfl,((hkd en.2.1).eq _ _ _).2 h3,_,[],rfl,by rw [f1];exact f2,rfl⟩⟩
end
noncomputable section
def zeh.l1 (n:Nat) (b:((List Constraint)×(List Action)×Int)→Option Model) (s:(List Constraint)×(List Action)×Int):Option Model:=
 let a:=s.2.2
 if (decide (a<3)) then
 (app 64 s.1 [(⟨0,0,(⟨[(⟨a,(-1)⟩:Term)],0⟩:Row),0,0⟩:Constraint),(⟨0,0,(⟨[(⟨a,1⟩:Term)],1⟩:Row),0,0⟩:Constraint)]).bind λc=>
 (app 104 s.2.1 [(⟨0,[a],(⟨[(⟨a,1⟩:Change)],[],[]⟩:Effect)⟩:Action)]).bind λd=>
 b (c,d,add64 a 1)
 else
 some (⟨[3],[(⟨[114],0,[0],(⟨0,1⟩:Range),0⟩:Table)],[[114]],s.1,[(⟨[109,97,114,107],false,[0]⟩:Operation)],s.2.1,[]⟩:Model)
def zeh (n:Nat):Option Model:=
 loopF (zeh.l1 n) n (([]:List Constraint),([]:List Action),0)
def z0.l1 (n:Nat) (t0:List Int) (t1:Int→Option Bool) (b:Int→Option Int) (a:Int):Option Int:=
 if (decide (a<(t0.length:Int))) then
 (idx t0 a).bind λc=>
 (t1 c).bind λd=>
 if d then
 some a
 else
 b (add64 a 1)
 else
 some (-1)
def z0 (n:Nat) (t0:List Int) (t1:Int→Option Bool):Option Int:=
 loopF (z0.l1 n t0 t1) n 0
def zG (n:Nat) (t0:List Int) (t1:Int→Option Bool):Option Bool:=
 (z0 n t0 t1).bind λa=>
 some (decide (0≤a))
def zdY (n:Nat) (t0:Int) (t1:Int) (t2:Int):Option Bool:=
 some ((decide (t1≤t0))&&(decide (t0≤t2)))
def zfD (n:Nat) (t0:Int):Option Bool:=
 (zdY n t0 1 6).bind λa=>
 some (!a)
def zfC (n:Nat) (t0:List Int):Option Bool:=
 (zG n t0 (λq0=>zfD n q0)).bind λa=>
 some (!a)
def zae.l1 (n:Nat) (t0:List Bool) (t1:Bool) (b:Int→Option Int) (a:Int):Option Int:=
 if (decide (a<(t0.length:Int))) then
 (idx t0 a).bind λc=>
 if (t1==c) then
 some a
 else
 b (add64 a 1)
 else
 some (-1)
def zae (n:Nat) (t0:List Bool) (t1:Bool):Option Int:=
 loopF (zae.l1 n t0 t1) n 0
def zbU (n:Nat) (t0:List Bool) (t1:Bool):Option Bool:=
 (zae n t0 t1).bind λa=>
 some (decide (0≤a))
def zgc (n:Nat) (t0:List Bool):Option Bool:=
 (zbU n t0 false).bind λa=>
 some (!a)
def zeW (n:Nat) (t0:List UInt8) (t1:Int→Option Bool):Option (List (List UInt8)):=
 none
def zgH (n:Nat) (t0:Int):Option Bool:=
 if (decide (wk .u32 t0≤255)) then
 jn (λ(b:Bool)=>
 if b then
 some true
 else
 some false) λa=>
 if (t0==9) then
 a (t0==9)
 else
 if (t0==10) then
 a (t0==10)
 else
 if (t0==11) then
 a (t0==11)
 else
 if (t0==12) then
 a (t0==12)
 else
 if (t0==13) then
 a (t0==13)
 else
 if (t0==32) then
 a (t0==32)
 else
 if (t0==133) then
 a (t0==133)
 else
 a (t0==160)
 else
 none
def za4.l4 (n:Nat) (t0:List UInt8) (e:Int) (c:((List (List UInt8))×Int×Int×Int)→Option (List (List UInt8))) (b:List (List UInt8)) (d:Int→Option (List (List UInt8))) (a:Int):Option (List (List UInt8)):=
 grd (!(decide (a<(t0.length:Int)))||(sidx t0 a).isSome) <|
 grd (!(decide (a<(t0.length:Int)))||(idx tab0 ((sidx t0 a).getD default)).isSome) <|
 if ((decide (a<(t0.length:Int)))&&(((idx tab0 ((sidx t0 a).getD default)).getD default) != 0)) then
 d (add64 a 1)
 else
 c (b,add64 e 1,a,a)
def za4.l3 (n:Nat) (t0:List UInt8) (e:((List (List UInt8))×Int×Int×Int)→Option (List (List UInt8))) (s:(List (List UInt8))×Int×Int×Int):Option (List (List UInt8)):=
 let a:=s.2.1
 let c:=s.2.2.1
 let b:=s.2.2.2
 if (decide (b<(t0.length:Int))) then
 (sidx t0 b).bind λj=>
 (idx tab0 j).bind λk=>
 if (k==0) then
 e (s.1,a,c,add64 b 1)
 else
 (cut t0 c b).bind λl=>
 (idx s.1 a).bind λo=>
 (sto s.1 a l).bind λh=>
 loopF (za4.l4 n t0 a e h) n (add64 b 1)
 else
 jn (λ(f:(List (List UInt8)))=>
 some f) λd=>
 if (decide (c<(t0.length:Int))) then
 (cut t0 c (t0.length:Int)).bind λi=>
 (idx s.1 a).bind λm=>
 (sto s.1 a i).bind λg=>
 d g
 else
 d s.1
def za4.l2 (n:Nat) (t0:List UInt8) (c:List (List UInt8)) (b:Int→Option (List (List UInt8))) (a:Int):Option (List (List UInt8)):=
 grd (!(decide (a<(t0.length:Int)))||(sidx t0 a).isSome) <|
 grd (!(decide (a<(t0.length:Int)))||(idx tab0 ((sidx t0 a).getD default)).isSome) <|
 if ((decide (a<(t0.length:Int)))&&(((idx tab0 ((sidx t0 a).getD default)).getD default) != 0)) then
 b (add64 a 1)
 else
 loopF (za4.l3 n t0) n (c,0,a,a)
def za4.l1 (n:Nat) (t0:List UInt8) (d:(Int×Int×Int×Int)→Option (List (List UInt8))) (s:Int×Int×Int×Int):Option (List (List UInt8)):=
 let a:=s.2.2.2
 if (decide (a<(t0.length:Int))) then
 (sidx t0 a).bind λb=>
 (idx tab0 b).bind λc=>
 d (add64 s.1 (band .i64 s.2.1 (bnot .i64 (wk .i64 c))),wk .i64 c,bor .u8 s.2.2.1 b,add64 a 1)
 else
 if (decide (128≤s.2.2.1)) then
 (zeW n t0 (λq0=>zgH n q0)).bind λe=>
 some e
 else
 (mkl 16 s.1 ([]:List UInt8)).bind λf=>
 loopF (za4.l2 n t0 f) n 0
def za4 (n:Nat) (t0:List UInt8):Option (List (List UInt8)):=
 loopF (za4.l1 n t0) n (0,1,0,0)
def zbH.l1 (n:Nat) (a:List (List UInt8)) (b:((GMap (List UInt8) Bool)×Int)→Option (GMap (List UInt8) Bool)) (s:(GMap (List UInt8) Bool)×Int):Option (GMap (List UInt8) Bool):=
 if (decide (s.2<(a.length:Int))) then
 (idx a s.2).bind λc=>
 b ((s.1.put c true),add64 s.2 1)
 else
 some s.1
def zbH (n:Nat):Option (GMap (List UInt8) Bool):=
 (za4 n [115,111,114,116,32,114,101,108,97,116,105,111,110,32,99,111,117,110,116,101,114,32,115,101,116,32,114,101,103,105,115,116,101,114,32,105,110,118,97,114,105,97,110,116,32,111,112,101,114,97,116,105,111,110,32,107,101,121,32,114,101,102,101,114,101,110,99,101,32,116,111,32,99,111,117,110,116,32,97,99,121,99,108,105,99,32,97,108,108,32,115,117,109,32,105,110,32,97,100,100,119,105,110,115,32,114,101,109,111,118,101,119,105,110,115,32,108,97,115,116,32,109,117,108,116,105,32,104,105,100,101,32,111,114,100,101,114,101,100,32,114,101,113,117,105,114,101,32,104,111,108,100,32,105,110,115,101,114,116,32,100,101,108,101,116,101,32,97,100,100,32,102,114,111,109,32,112,117,116,32,100,114,111,112,32,97,115,115,105,103,110,32,102,111,114,32,119,104,101,114,101,32,97,110,100,32,111,114,32,110,111,116]).bind λa=>
 loopF (zbH.l1 n a) n ((GMap.empty:GMap (List UInt8) Bool),0)
def zb5 (n:Nat) (t0:Int):Option Bool:=
 some ((((t0==32)||(t0==9))||(t0==10))||(t0==13))
def zcI.l1 (n:Nat) (t0:List UInt8) (t1:Int→Option Bool) (b:Int→Option Int) (a:Int):Option Int:=
 grd (!(decide (a<(t0.length:Int)))||(sidx t0 a).isSome) <|
 grd (!(decide (a<(t0.length:Int)))||(t1 ((sidx t0 a).getD default)).isSome) <|
 if ((decide (a<(t0.length:Int)))&&((t1 ((sidx t0 a).getD default)).getD default)) then
 b (add64 a 1)
 else
 some a
def zcI (n:Nat) (t0:List UInt8) (t1:Int→Option Bool):Option Int:=
 loopF (zcI.l1 n t0 t1) n 0
def zgm (n:Nat) (t0:Int):Option Bool:=
 some (t0 != 10)
def zcP.l1 (n:Nat) (t0:List UInt8) (b:Int→Option Int) (a:Int):Option Int:=
 if (decide (a<(t0.length:Int))) then
 (sidx t0 a).bind λc=>
 (zb5 n c).bind λd=>
 if d then
 b (add64 a 1)
 else
 (sidx t0 a).bind λe=>
 if (e==35) then
 (cut t0 a (t0.length:Int)).bind λf=>
 (zcI n f (λq0=>zgm n q0)).bind λg=>
 b (add64 a g)
 else
 some a
 else
 some a
def zcP (n:Nat) (t0:List UInt8):Option Int:=
 loopF (zcP.l1 n t0) n 0
def zcH (n:Nat) (t0:Int):Option Bool:=
 some ((decide (97≤t0))&&(decide (t0≤122)))
def zbo (n:Nat) (t0:Int):Option Bool:=
 some ((decide (48≤t0))&&(decide (t0≤57)))
def zim (n:Nat) (t0:Int):Option Bool:=
 (zcH n t0).bind λa=>
 grd (a||(zbo n t0).isSome) <|
 some ((a||((zbo n t0).getD default))||(t0==95))
def zbt (n:Nat) (t0:List UInt8) (t1:List UInt8):Option Bool:=
 grd (!(decide ((t1.length:Int)≤(t0.length:Int)))||(cut t0 0 (t1.length:Int)).isSome) <|
 some ((decide ((t1.length:Int)≤(t0.length:Int)))&&(decide (((cut t0 0 (t1.length:Int)).getD default)=t1)))
def zcV (n:Nat) (t0:List UInt8) (t1:List UInt8):Option Bool:=
 (zbt n t0 t1).bind λa=>
 some a
def zbu (n:Nat) (t0:List UInt8) (t1:Int):Option Int:=
 some (Lib.indexByte t0 t1.toNat.toUInt8)
def zch (n:Nat) (t0:List UInt8) (t1:Int):Option Int:=
 (zbu n t0 t1).bind λa=>
 some a
def zbg.l1 (n:Nat) (t0:List UInt8) (b:Int→Option Int) (a:Int):Option Int:=
 if (decide (a<([[61,61],[33,61],[60,61],[62,61],[46,46]].length:Int))) then
 (idx [[61,61],[33,61],[60,61],[62,61],[46,46]] a).bind λd=>
 (zcV n t0 d).bind λc=>
 if c then
 some 2
 else
 b (add64 a 1)
 else
 grd (!(!decide (t0=[]))||(sidx t0 0).isSome) <|
 grd (!(!decide (t0=[]))||(zch n [60,62,61,43,45,42,40,41,123,125,44,58,59] ((sidx t0 0).getD default)).isSome) <|
 if ((!decide (t0=[]))&&(decide (0≤((zch n [60,62,61,43,45,42,40,41,123,125,44,58,59] ((sidx t0 0).getD default)).getD default)))) then
 some 1
 else
 some 0
def zbg (n:Nat) (t0:List UInt8):Option Int:=
 loopF (zbg.l1 n t0) n 0
def zdm (n:Nat) (t0:List UInt8):Option Bool:=
 (sidx t0 0).bind λb=>
 (zcH n b).bind λa=>
 grd (a||(sidx t0 0).isSome) <|
 grd (a||(zbo n ((sidx t0 0).getD default)).isSome) <|
 grd ((a||((zbo n ((sidx t0 0).getD default)).getD default))||(zbg n t0).isSome) <|
 some ((a||((zbo n ((sidx t0 0).getD default)).getD default))||(decide (0<((zbg n t0).getD default))))
def zaC.l2 (n:Nat) (a:List UInt8) (c:(Int×Int)→Option Token) (d:Int→Option Token) (b:Int):Option Token:=
 grd (!(decide (b<(a.length:Int)))||(sidx a b).isSome) <|
 grd (!(decide (b<(a.length:Int)))||(zb5 n ((sidx a b).getD default)).isSome) <|
 grd (!((decide (b<(a.length:Int)))&&(!((zb5 n ((sidx a b).getD default)).getD default)))||(sidx a b).isSome) <|
 grd (!(((decide (b<(a.length:Int)))&&(!((zb5 n ((sidx a b).getD default)).getD default)))&&(((sidx a b).getD default) != 35))||(cut a b (a.length:Int)).isSome) <|
 grd (!(((decide (b<(a.length:Int)))&&(!((zb5 n ((sidx a b).getD default)).getD default)))&&(((sidx a b).getD default) != 35))||(zdm n ((cut a b (a.length:Int)).getD default)).isSome) <|
 if ((((decide (b<(a.length:Int)))&&(!((zb5 n ((sidx a b).getD default)).getD default)))&&(((sidx a b).getD default) != 35))&&(!((zdm n ((cut a b (a.length:Int)).getD default)).getD default))) then
 d (add64 b 1)
 else
 c (5,b)
def zaC.l1 (n:Nat) (t1:List UInt8) (t2:GMap (List UInt8) Bool) (p:Unit→Option Token) (s:Unit):Option Token:=
 (cut t1 0 (t1.length:Int)).bind λf=>
 (zcP n f).bind λc=>
 (cut t1 (add64 0 c) (t1.length:Int)).bind λa=>
 jn (λ(e:Int×Int)=>
 some (⟨e.1,0,add64 0 c,add64 (add64 0 c) e.2⟩:Token)) λb=>
 if (decide (a=[])) then
 b (0,0)
 else
 (sidx a 0).bind λg=>
 (zcH n g).bind λh=>
 if h then
 (zcI n a (λq0=>zim n q0)).bind λd=>
 (cut a 0 d).bind λi=>
 if ((t2.get? i).getD false) then
 b (2,d)
 else
 b (1,d)
 else
 (sidx a 0).bind λj=>
 (zbo n j).bind λk=>
 if k then
 (zcI n a (λq0=>zbo n q0)).bind λl=>
 b (3,l)
 else
 (zbg n a).bind λm=>
 if (decide (0<m)) then
 (zbg n a).bind λo=>
 b (4,o)
 else
 loopF (zaC.l2 n a b) n 1
def zaC (n:Nat) (t1:List UInt8) (t2:GMap (List UInt8) Bool):Option Token:=
 loopF (zaC.l1 n t1 t2) n ()
def zen (n:Nat) (t0:List UInt8):Option Int:=
 if ((decide (t0=[]))||(decide (4096<(t0.length:Int))))=true then some 0
 else
 (zbH n).bind λkw=>
 (zaC n t0 kw).bind λtok=>
 if (tok.at_ != 0||tok.end_ != (t0.length:Int))=true then some 0 else some tok.kind
def zfl (n:Nat) (t0:List UInt8):Option Bool:=
 grd (!(decide ((t0.length:Int)≤16))||(zen n t0).isSome) <|
 some ((decide ((t0.length:Int)≤16))&&(((zen n t0).getD default)==1))
def zcu (n:Nat) (t0:Int) (t1:List Int):Option Bool:=
 some ((decide (t0<0))||(decide ((t1.length:Int)≤t0)))
def zdO (n:Nat) (t0:List Int) (t1:List Int):Option Bool:=
 grd (!(decide ((t1.length:Int)≤3))||(zG n t1 (λq0=>zcu n q0 t0)).isSome) <|
 some ((decide ((t1.length:Int)≤3))&&(!((zG n t1 (λq0=>zcu n q0 t0)).getD default)))
def zeM (n:Nat) (t0:Table):Option Bool:=
 jn (λ(b:Bool)=>
 if b then
 some (((decide (t0.range.lo≤t0.range.hi))&&(decide ((-9999)≤t0.range.lo)))&&(decide (t0.range.hi≤9999)))
 else
 some (decide ((t0.range:Range)=(⟨0,1⟩:Range)))) λa=>
 if (t0.kind==1) then
 a (t0.kind==1)
 else
 if (t0.kind==4) then
 a (t0.kind==4)
 else
 a (t0.kind==5)
def zb4 (n:Nat) (t0:Table):Option Bool:=
 some ((t0.kind==0)||(t0.kind==1))
def za6.l1 (n:Nat) (t0:List Int) (t1:List Int) (a:(Int×Int)→Option Int) (s:Int×Int):Option Int:=
 if (decide (s.2<(t1.length:Int))) then
 (idx t1 s.2).bind λb=>
 (idx t0 b).bind λc=>
 a (mul64 s.1 c,add64 s.2 1)
 else
 some s.1
def za6 (n:Nat) (t0:List Int) (t1:List Int):Option Int:=
 loopF (za6.l1 n t0 t1) n (1,0)
def zbL.l1 (n:Nat) (t0:List Int) (t1:List Table) (f:((GMap (List UInt8) Bool)×Int×Int×Int)→Option Bool) (s:(GMap (List UInt8) Bool)×Int×Int×Int):Option Bool:=
 let b:=s.2.2.1
 let d:=s.2.2.2
 if (decide (d<(t1.length:Int))) then
 jn (λ(c:(GMap (List UInt8) Bool)×Int×Int)=>
 f (c.1,c.2.1,c.2.2,add64 d 1)) λe=>
 (idx t1 d).bind λa=>
 (zfl n a.name).bind λg=>
 (zdY n a.kind 0 5).bind λh=>
 (zdO n t0 a.columns).bind λi=>
 (zeM n a).bind λj=>
 (zgc n [g,!((s.1.get? a.name).getD false),h,i,j]).bind λk=>
 if (!k) then
 some false
 else
 (zb4 n a).bind λl=>
 if l then
 if (a.first != s.2.1) then
 some false
 else
 (za6 n t0 a.columns).bind λm=>
 e ((s.1.put a.name true),add64 s.2.1 m,b)
 else
 if (a.first != b) then
 some false
 else
 (za6 n t0 a.columns).bind λo=>
 e ((s.1.put a.name true),s.2.1,add64 b o)
 else
 some ((decide (s.2.1≤128))&&(decide (b≤64)))
def zbL (n:Nat) (t0:List Int) (t1:List Table):Option Bool:=
 (zfC n t0).bind λa=>
 (zgc n [decide ((t0.length:Int)≤4),decide ((t1.length:Int)≤12),a]).bind λb=>
 if (!b) then
 some false
 else
 loopF (zbL.l1 n t0 t1) n ((GMap.empty:GMap (List UInt8) Bool),0,0,0)
def zau.l1 (n:Nat) (t0:List (List UInt8)) (b:((GMap (List UInt8) Bool)×Int)→Option Bool) (s:(GMap (List UInt8) Bool)×Int):Option Bool:=
 if (decide (s.2<(t0.length:Int))) then
 (idx t0 s.2).bind λa=>
 (zfl n a).bind λc=>
 if ((!c)||((s.1.get? a).getD false)) then
 some false
 else
 b ((s.1.put a true),add64 s.2 1)
 else
 some true
def zau (n:Nat) (t0:List (List UInt8)):Option Bool:=
 loopF (zau.l1 n t0) n ((GMap.empty:GMap (List UInt8) Bool),0)
def zeu (n:Nat) (t0:Int) (t1:Int):Option (Int×Int):=
 (shrO .u64 t0 32).bind λa=>
 (shrO .u64 t1 32).bind λb=>
 (shrO .u64 (wk .u64 ((band .u64 t0 4294967295)*(band .u64 t1 4294967295))) 32).bind λc=>
 (shrO .u64 (wk .u64 ((wk .u64 (a*(band .u64 t1 4294967295)))+c)) 32).bind λd=>
 (shrO .u64 (wk .u64 ((band .u64 (wk .u64 ((wk .u64 (a*(band .u64 t1 4294967295)))+c)) 4294967295)+(wk .u64 ((band .u64 t0 4294967295)*b)))) 32).bind λe=>
 some (wk .u64 ((wk .u64 ((wk .u64 (a*b))+d))+e),wk .u64 (t0*t1))
def zej (n:Nat) (t0:Int) (t1:Int):Option (Int×Int):=
 (zeu n t0 t1).bind λa=>
 some (a.1,a.2)
def zQ.l1 (n:Nat) (b:((List Range)×Int)→Option (List Range)) (s:(List Range)×Int):Option (List Range):=
 let a:=s.1
 if (decide (s.2<(a.length:Int))) then
 (cut a s.2 (a.length:Int)).bind λc=>
 (cut a 0 s.2).bind λd=>
 b ((zeN a s.2.toNat a.length ((a.drop 0).take (s.2.toNat - 0))),add64 s.2 (min (a.length - s.2.toNat) ((a.drop 0).take (s.2.toNat - 0)).length:Nat))
 else
 some a
def zQ (n:Nat) (t0:List Range) (t1:Int):Option (List Range):=
 if (decide (t1<0)) then
 none
 else
 (zej n (wk .u64 (t0.length:Int)) (wk .u64 t1)).bind λa=>
 if ((decide (0<a.1))||(decide (9223372036854775807<a.2))) then
 none
 else
 (mkl 16 (wk .i64 a.2) (⟨0,0⟩:Range)).bind λb=>
 loopF (zQ.l1 n) n ((zeN b 0 b.length t0),(min (b.length - 0) t0.length:Nat))
def zbY.l1 (n:Nat) (t0:List Int) (t1:List Table) (t2:Bool) (d:((List Range)×Int)→Option (List Range)) (s:(List Range)×Int):Option (List Range):=
 if (decide (s.2<(t1.length:Int))) then
 jn (λ(c:(List Range))=>
 d (c,add64 s.2 1)) λb=>
 (idx t1 s.2).bind λa=>
 (zb4 n a).bind λe=>
 if (e==t2) then
 (za6 n t0 a.columns).bind λf=>
 (zQ n [a.range] f).bind λg=>
 (app 16 s.1 g).bind λh=>
 b h
 else
 b s.1
 else
 some s.1
def zbY (n:Nat) (t0:List Int) (t1:List Table) (t2:Bool):Option (List Range):=
 (zbL n t0 t1).bind λa=>
 if (!a) then
 some []
 else
 loopF (zbY.l1 n t0 t1 t2) n (([]:List Range),0)
def zas (n:Nat) (t0:Int) (t1:Int):Option Bool:=
 some ((decide (0≤t0))&&(decide (t0<t1)))
def zaE (n:Nat) (t0:Int) (t1:Int):Option Bool:=
 some ((decide (neg64 t1≤t0))&&(decide (t0≤t1)))
def zaA.l1 (n:Nat) (t0:Judge) (t1:Row) (b:(Int×Int)→Option Bool) (s:Int×Int):Option Bool:=
 if (decide (s.2<(t1.terms.length:Int))) then
 (idx t1.terms s.2).bind λa=>
 grd ((((decide (a.cell≤s.1))||(decide ((t0.strict.length:Int)≤a.cell)))||(a.factor==0))||(zaE n a.factor 1000).isSome) <|
 if ((((decide (a.cell≤s.1))||(decide ((t0.strict.length:Int)≤a.cell)))||(a.factor==0))||(!((zaE n a.factor 1000).getD default))) then
 some false
 else
 b (a.cell,add64 s.2 1)
 else
 (zaE n t1.bound 1000000000).bind λc=>
 some c
def zaA (n:Nat) (t0:Judge) (t1:Row):Option Bool:=
 loopF (zaA.l1 n t0 t1) n ((-1),0)
def zbp (n:Nat) (t0:Table) (t1:Constraint) (t2:Judge):Option Bool:=
 grd (!((t0.kind==0)&&((t0.columns.length:Int)==2))||(idx t0.columns 0).isSome) <|
 grd (!((t0.kind==0)&&((t0.columns.length:Int)==2))||(idx t0.columns 1).isSome) <|
 grd (!((((t0.kind==0)&&((t0.columns.length:Int)==2))&&(((idx t0.columns 0).getD default)==((idx t0.columns 1).getD default)))&&(t0.first==t1.first))||(idx t0.columns 0).isSome) <|
 grd (!((((t0.kind==0)&&((t0.columns.length:Int)==2))&&(((idx t0.columns 0).getD default)==((idx t0.columns 1).getD default)))&&(t0.first==t1.first))||(idx t2.model.sorts ((idx t0.columns 0).getD default)).isSome) <|
 some (((((t0.kind==0)&&((t0.columns.length:Int)==2))&&(((idx t0.columns 0).getD default)==((idx t0.columns 1).getD default)))&&(t0.first==t1.first))&&(((idx t2.model.sorts ((idx t0.columns 0).getD default)).getD default)==t1.size))
def zB.l1 (n:Nat) (t0:List Table) (t1:Table→Option Bool) (b:Int→Option Int) (a:Int):Option Int:=
 if (decide (a<(t0.length:Int))) then
 (idx t0 a).bind λc=>
 (t1 c).bind λd=>
 if d then
 some a
 else
 b (add64 a 1)
 else
 some (-1)
def zB (n:Nat) (t0:List Table) (t1:Table→Option Bool):Option Int:=
 loopF (zB.l1 n t0 t1) n 0
def zY (n:Nat) (t0:List Table) (t1:Table→Option Bool):Option Bool:=
 (zB n t0 t1).bind λa=>
 some (decide (0≤a))
def zbK (n:Nat) (t0:Judge) (t1:Constraint):Option Bool:=
 grd (!(((t1.row.terms.length:Int)==0)&&(t1.row.bound==0))||(zY n t0.model.tables (λq0=>zbp n q0 t1 t0)).isSome) <|
 some ((((t1.row.terms.length:Int)==0)&&(t1.row.bound==0))&&((zY n t0.model.tables (λq0=>zbp n q0 t1 t0)).getD default))
def zy.l1 (n:Nat) (t0:List Term) (t1:List Term) (b:Int→Option Bool) (a:Int):Option Bool:=
 if (decide (a<(t0.length:Int))) then
 (idx t0 a).bind λc=>
 (idx t1 a).bind λd=>
 if (!decide ((c:Term)=d)) then
 some false
 else
 b (add64 a 1)
 else
 some true
def zy (n:Nat) (t0:List Term) (t1:List Term):Option Bool:=
 if ((t0.length:Int) != (t1.length:Int)) then
 some false
 else
 loopF (zy.l1 n t0 t1) n 0
def zdn (n:Nat) (t0:Row) (t1:Int) (t2:Int) (t3:Int):Option Bool:=
 (zy n t0.terms [(⟨t1,t2⟩:Term)]).bind λa=>
 some (a&&(t0.bound==t3))
def zad.l1 (n:Nat) (t0:Judge) (h:Int→Option Bool) (b:Int):Option Bool:=
 if (decide (b<(t0.model.constraints.length:Int))) then
 jn (λ(m:Unit)=>
 h (add64 b 1)) λd=>
 (idx t0.model.constraints b).bind λa=>
 jn (λ(o:Unit)=>
 (quo64 b 2).bind λj=>
 if (decide (j<(t0.strict.length:Int))) then
 (quo64 b 2).bind λk=>
 (idx t0.strict k).bind λg=>
 jn (λ(c:Int×Int)=>
 grd ((a.kind != 0)||(quo64 b 2).isSome) <|
 grd ((a.kind != 0)||(zdn n a.row ((quo64 b 2).getD default) c.1 c.2).isSome) <|
 if ((a.kind != 0)||(!((zdn n a.row ((quo64 b 2).getD default) c.1 c.2).getD default))) then
 some false
 else
 d ()) λf=>
 (rem64 b 2).bind λl=>
 if (l==0) then
 f ((-1),neg64 g.lo)
 else
 f (1,g.hi)
 else
 d ()) λe=>
 (zas n a.family (t0.model.families.length:Int)).bind λi=>
 if (!i) then
 some false
 else
 if (a.kind==0) then
 grd (((a.first != 0)||(a.size != 0))||(zaA n t0 a.row).isSome) <|
 if (((a.first != 0)||(a.size != 0))||(!((zaA n t0 a.row).getD default))) then
 some false
 else
 e ()
 else
 grd ((a.kind != 1)||(zbK n t0 a).isSome) <|
 if ((a.kind != 1)||(!((zbK n t0 a).getD default))) then
 some false
 else
 e ()
 else
 some true
def zad (n:Nat) (t0:Judge):Option Bool:=
 if ((decide (512<(t0.model.constraints.length:Int)))||(decide ((t0.model.constraints.length:Int)<mul64 2 (t0.strict.length:Int)))) then
 some false
 else
 loopF (zad.l1 n t0) n 0
def za1 (n:Nat) (t0:Int) (t1:Judge):Option Bool:=
 some ((decide (t0<(-1)))||(decide ((t1.model.sorts.length:Int)≤t0)))
def zK.l1 (n:Nat) (t0:Judge) (b:((List (List UInt8))×Int)→Option Bool) (s:(List (List UInt8))×Int):Option Bool:=
 if (decide (s.2<(t0.model.operations.length:Int))) then
 (idx t0.model.operations s.2).bind λa=>
 (app 16 s.1 [a.name]).bind λc=>
 grd ((decide (3<(a.sorts.length:Int)))||(zG n a.sorts (λq0=>za1 n q0 t0)).isSome) <|
 if ((decide (3<(a.sorts.length:Int)))||((zG n a.sorts (λq0=>za1 n q0 t0)).getD default)) then
 some false
 else
 b (c,add64 s.2 1)
 else
 grd (!(decide ((s.1.length:Int)≤8))||(zau n s.1).isSome) <|
 some ((decide ((s.1.length:Int)≤8))&&((zau n s.1).getD default))
def zK (n:Nat) (t0:Judge):Option Bool:=
 loopF (zK.l1 n t0) n (([]:List (List UInt8)),0)
def zcp (n:Nat) (t0:Int):Option Bool:=
 some (t0 != t0)
def zR (n:Nat) (t0:Int) (t1:Int):Option Int:=
 (zcp n t0).bind λb=>
 (zcp n t1).bind λa=>
 if b then
 if a then
 some 0
 else
 some (-1)
 else
 if a then
 some 1
 else
 if (decide (t0<t1)) then
 some (-1)
 else
 if (decide (t1<t0)) then
 some 1
 else
 some 0
def zL.l1 (n:Nat) (t0:List Int) (t1:List Int) (c:Int→Option Int) (a:Int):Option Int:=
 if (decide (a<(t0.length:Int))) then
 (idx t0 a).bind λd=>
 if (decide ((t1.length:Int)≤a)) then
 some 1
 else
 (idx t1 a).bind λe=>
 (zR n d e).bind λb=>
 if (b != 0) then
 some b
 else
 c (add64 a 1)
 else
 if (decide ((t0.length:Int)<(t1.length:Int))) then
 some (-1)
 else
 some 0
def zL (n:Nat) (t0:List Int) (t1:List Int):Option Int:=
 loopF (zL.l1 n t0 t1) n 0
def za5.l2 (n:Nat) (t0:List Int) (e:Int) (f:Table) (d:((List Int)×Int×Int)→Option (Int×(List Int)×Bool)) (s:(List Int)×Int×Int):Option (Int×(List Int)×Bool):=
 let a:=s.2.2
 if (decide (0≤a)) then
 (idx f.columns a).bind λg=>
 (idx t0 g).bind λb=>
 (rem64 s.2.1 b).bind λh=>
 (quo64 s.2.1 b).bind λi=>
 (idx s.1 a).bind λj=>
 (sto s.1 a h).bind λc=>
 d (c,i,sub64 a 1)
 else
 some (e,s.1,true)
def za5.l1 (n:Nat) (t0:List Int) (t1:List Table) (t2:Bool) (t3:Int) (e:Int→Option (Int×(List Int)×Bool)) (b:Int):Option (Int×(List Int)×Bool):=
 if (decide (b<(t1.length:Int))) then
 (idx t1 b).bind λa=>
 (zb4 n a).bind λc=>
 grd (((c != t2)||(decide (sub64 t3 a.first<0)))||(za6 n t0 a.columns).isSome) <|
 if (((c != t2)||(decide (sub64 t3 a.first<0)))||(decide (((za6 n t0 a.columns).getD default)≤sub64 t3 a.first))) then
 e (add64 b 1)
 else
 (mkl 8 (a.columns.length:Int) (0:Int)).bind λd=>
 loopF (za5.l2 n t0 b a) n (d,sub64 t3 a.first,sub64 (d.length:Int) 1)
 else
 some (0,[],false)
def za5 (n:Nat) (t0:List Int) (t1:List Table) (t2:Bool) (t3:Int):Option (Int×(List Int)×Bool):=
 (zbL n t0 t1).bind λa=>
 if ((!a)||(decide (t3<0))) then
 some (0,[],false)
 else
 loopF (za5.l1 n t0 t1 t2 t3) n 0
def zbx (n:Nat) (t0:Judge) (t1:Update):Option Bool:=
 (za5 n t0.model.sorts t0.model.tables false t1.cell).bind λc=>
 if (!c.2.2) then
 some false
 else
 (idx t0.model.tables c.1).bind λa=>
 jn (λ(d:Bool)=>
 if d then
 some (((t1.kind==0)||(t1.kind==1))&&(t1.value==0))
 else
 some (((t1.kind==2)&&(decide (a.range.lo≤t1.value)))&&(decide (t1.value≤a.range.hi)))) λb=>
 if (a.kind==2) then
 b (a.kind==2)
 else
 b (a.kind==3)
def zbd (n:Nat) (t0:Row) (t1:Judge):Option Bool:=
 (zaA n t1 t0).bind λa=>
 some (!a)
def zM.l1 (n:Nat) (t0:List Row) (t1:Row→Option Bool) (b:Int→Option Int) (a:Int):Option Int:=
 if (decide (a<(t0.length:Int))) then
 (idx t0 a).bind λc=>
 (t1 c).bind λd=>
 if d then
 some a
 else
 b (add64 a 1)
 else
 some (-1)
def zM (n:Nat) (t0:List Row) (t1:Row→Option Bool):Option Int:=
 loopF (zM.l1 n t0 t1) n 0
def zX (n:Nat) (t0:List Row) (t1:Row→Option Bool):Option Bool:=
 (zM n t0 t1).bind λa=>
 some (decide (0≤a))
def zU.l2 (n:Nat) (t0:Judge) (t1:Effect) (b:(Int×Int)→Option Bool) (s:Int×Int):Option Bool:=
 if (decide (s.2<(t1.updates.length:Int))) then
 (idx t1.updates s.2).bind λa=>
 grd ((decide (a.cell≤s.1))||(zbx n t0 a).isSome) <|
 if ((decide (a.cell≤s.1))||(!((zbx n t0 a).getD default))) then
 some false
 else
 b (a.cell,add64 s.2 1)
 else
 grd (!((decide ((t1.hold.length:Int)≤8))&&(decide ((t1.updates.length:Int)≤32)))||(zX n t1.hold (λq0=>zbd n q0 t0)).isSome) <|
 some (((decide ((t1.hold.length:Int)≤8))&&(decide ((t1.updates.length:Int)≤32)))&&(!((zX n t1.hold (λq0=>zbd n q0 t0)).getD default)))
def zU.l1 (n:Nat) (t0:Judge) (t1:Effect) (b:(Int×Int)→Option Bool) (s:Int×Int):Option Bool:=
 if (decide (s.2<(t1.delta.length:Int))) then
 (idx t1.delta s.2).bind λa=>
 grd ((((decide (a.cell≤s.1))||(decide ((t0.strict.length:Int)≤a.cell)))||(a.add==0))||(zaE n a.add 1000000000).isSome) <|
 if ((((decide (a.cell≤s.1))||(decide ((t0.strict.length:Int)≤a.cell)))||(a.add==0))||(!((zaE n a.add 1000000000).getD default))) then
 some false
 else
 b (a.cell,add64 s.2 1)
 else
 loopF (zU.l2 n t0 t1) n ((-1),0)
def zU (n:Nat) (t0:Judge) (t1:Effect):Option Bool:=
 loopF (zU.l1 n t0 t1) n ((-1),0)
def zC.l2 (n:Nat) (t0:Judge) (f:Int) (j:Int→Option Bool) (b:Action) (h:Operation) (i:Int→Option Bool) (e:Int):Option Bool:=
 if (decide (e<(h.sorts.length:Int))) then
 (idx h.sorts e).bind λa=>
 (idx b.arguments e).bind λc=>
 grd (!(decide (a<0))||(zaE n c 9999).isSome) <|
 grd (((decide (a<0))&&(!((zaE n c 9999).getD default)))||(!(decide (0≤a))||(idx t0.model.sorts a).isSome)) <|
 grd (((decide (a<0))&&(!((zaE n c 9999).getD default)))||(!(decide (0≤a))||(zas n c ((idx t0.model.sorts a).getD default)).isSome)) <|
 if (((decide (a<0))&&(!((zaE n c 9999).getD default)))||((decide (0≤a))&&(!((zas n c ((idx t0.model.sorts a).getD default)).getD default)))) then
 some false
 else
 i (add64 e 1)
 else
 jn (λ(l:Unit)=>
 (zU n t0 b.effect).bind λk=>
 if (!k) then
 some false
 else
 j (add64 f 1)) λg=>
 if (decide (0<f)) then
 (idx t0.model.actions (sub64 f 1)).bind λd=>
 grd ((decide (b.operation<d.operation))||(!(d.operation==b.operation)||(zL n d.arguments b.arguments).isSome)) <|
 if ((decide (b.operation<d.operation))||((d.operation==b.operation)&&(decide (0≤((zL n d.arguments b.arguments).getD default))))) then
 some false
 else
 g ()
 else
 g ()
def zC.l1 (n:Nat) (t0:Judge) (d:Int→Option Bool) (b:Int):Option Bool:=
 if (decide (b<(t0.model.actions.length:Int))) then
 (idx t0.model.actions b).bind λa=>
 (zas n a.operation (t0.model.operations.length:Int)).bind λc=>
 grd ((!c)||(idx t0.model.operations a.operation).isSome) <|
 if ((!c)||((a.arguments.length:Int) != ((((idx t0.model.operations a.operation).getD default).sorts).length:Int))) then
 some false
 else
 (idx t0.model.operations a.operation).bind λe=>
 loopF (zC.l2 n t0 b d a e) n 0
 else
 some true
def zC (n:Nat) (t0:Judge):Option Bool:=
 if (decide (256<(t0.model.actions.length:Int))) then
 some false
 else
 loopF (zC.l1 n t0) n 0
def zc4 (n:Nat) (t0:Hide) (t1:Int) (t2:GMap Int Bool):Option Bool:=
 some ((t0.table==t1)&&((t2.get? t0.to).getD false))
def zF.l1 (n:Nat) (t0:List Hide) (t1:Hide→Option Bool) (b:Int→Option Int) (a:Int):Option Int:=
 if (decide (a<(t0.length:Int))) then
 (idx t0 a).bind λc=>
 (t1 c).bind λd=>
 if d then
 some a
 else
 b (add64 a 1)
 else
 some (-1)
def zF (n:Nat) (t0:List Hide) (t1:Hide→Option Bool):Option Int:=
 loopF (zF.l1 n t0 t1) n 0
def zaB (n:Nat) (t0:List Hide) (t1:Hide→Option Bool):Option Bool:=
 (zF n t0 t1).bind λa=>
 some (decide (0≤a))
def zi.l4 (n:Nat) (t0:Judge) (c:GMap Int Bool) (e:Int) (d:((GMap Int Bool)×Int)→Option Bool) (b:((GMap Int Bool)×(List Nat)×Nat)→Option Bool) (s:(GMap Int Bool)×(List Nat)×Nat):Option Bool:=
 stepM s.1 s.2.1 c.clock s.2.2 (
 d (s.1,add64 e 1)) λa=>
 grd (decide (s.1.es.map (·.1)).Nodup) <|
 (zaB n t0.model.hides (λq0=>zc4 n q0 a.2.1 s.1)).bind λf=>
 if (!f) then
 b ((s.1.del a.2.1),s.2.1++[a.1],s.1.clock)
 else
 b (s.1,s.2.1++[a.1],s.1.clock)
def zi.l3 (n:Nat) (t0:Judge) (a:((GMap Int Bool)×Int)→Option Bool) (s:(GMap Int Bool)×Int):Option Bool:=
 if (decide (s.2<(t0.model.hides.length:Int))) then
 loopF (zi.l4 n t0 s.1 s.2 a) n (s.1,([]:List Nat),s.1.clock)
 else
 some ((s.1.es.length:Int)==0)
def zi.l2 (n:Nat) (t0:Judge) (a:((GMap Int Bool)×Int)→Option Bool) (s:(GMap Int Bool)×Int):Option Bool:=
 if (decide (s.2<(t0.model.hides.length:Int))) then
 (idx t0.model.hides s.2).bind λb=>
 a ((s.1.put b.table true),add64 s.2 1)
 else
 loopF (zi.l3 n t0) n (s.1,0)
def zi.l1 (n:Nat) (t0:Judge) (f:Int→Option Bool) (d:Int):Option Bool:=
 if (decide (d<(t0.model.hides.length:Int))) then
 (idx t0.model.hides d).bind λa=>
 (zas n a.table (t0.model.tables.length:Int)).bind λe=>
 grd ((!e)||(zas n a.to (t0.model.tables.length:Int)).isSome) <|
 if (((!e)||(!((zas n a.to (t0.model.tables.length:Int)).getD default)))||(a.table==a.to)) then
 some false
 else
 (idx t0.model.tables a.table).bind λb=>
 (idx t0.model.tables a.to).bind λc=>
 grd (((b.kind != 0)||(c.kind != 0))||(zas n a.column (b.columns.length:Int)).isSome) <|
 grd (((((b.kind != 0)||(c.kind != 0))||(!((zas n a.column (b.columns.length:Int)).getD default)))||((c.columns.length:Int) != 1))||(idx c.columns 0).isSome) <|
 grd (((((b.kind != 0)||(c.kind != 0))||(!((zas n a.column (b.columns.length:Int)).getD default)))||((c.columns.length:Int) != 1))||(idx b.columns a.column).isSome) <|
 if (((((b.kind != 0)||(c.kind != 0))||(!((zas n a.column (b.columns.length:Int)).getD default)))||((c.columns.length:Int) != 1))||(((idx c.columns 0).getD default) != ((idx b.columns a.column).getD default))) then
 some false
 else
 f (add64 d 1)
 else
 loopF (zi.l2 n t0) n ((GMap.empty:GMap Int Bool),0)
def zi (n:Nat) (t0:Judge):Option Bool:=
 if (decide (12<(t0.model.hides.length:Int))) then
 some false
 else
 loopF (zi.l1 n t0) n 0
def zfK (n:Nat) (t0:Model):Option Bool:=
 (zbL n t0.sorts t0.tables).bind λc=>
 grd (((!c)||(decide (24<(t0.families.length:Int))))||(zau n t0.families).isSome) <|
 if (((!c)||(decide (24<(t0.families.length:Int))))||(!((zau n t0.families).getD default))) then
 some false
 else
 (zbY n t0.sorts t0.tables true).bind λa=>
 (zad n (⟨t0,a⟩:Judge)).bind λb=>
 grd (!b||(zK n (⟨t0,a⟩:Judge)).isSome) <|
 grd (!(b&&((zK n (⟨t0,a⟩:Judge)).getD default))||(zC n (⟨t0,a⟩:Judge)).isSome) <|
 grd (!((b&&((zK n (⟨t0,a⟩:Judge)).getD default))&&((zC n (⟨t0,a⟩:Judge)).getD default))||(zi n (⟨t0,a⟩:Judge)).isSome) <|
 some (((b&&((zK n (⟨t0,a⟩:Judge)).getD default))&&((zC n (⟨t0,a⟩:Judge)).getD default))&&((zi n (⟨t0,a⟩:Judge)).getD default))
def zm.l5 (n:Nat) (a:Int) (f:((List Place)×(List Place)×Int)→Option ((Option Layout)×Bool)) (h:Table) (e:List (List Int)) (g:((List Place)×(List Place)×Int)→Option ((Option Layout)×Bool)) (s:(List Place)×(List Place)×Int):Option ((Option Layout)×Bool):=
 if (decide (s.2.2<(e.length:Int))) then
 jn (λ(b:(List Place)×(List Place))=>
 g (b.1,b.2,add64 s.2.2 1)) λc=>
 (idx e s.2.2).bind λd=>
 if (decide (h.kind≤1)) then
 (app 32 s.1 [(⟨a,d⟩:Place)]).bind λi=>
 c (i,s.2.1)
 else
 (app 32 s.2.1 [(⟨a,d⟩:Place)]).bind λj=>
 c (s.1,j)
 else
 f (s.1,s.2.1,add64 a 1)
def zm.l4 (n:Nat) (c:Int) (a:((List (List Int))×Int)→Option ((Option Layout)×Bool)) (d:List Int) (e:Int) (b:((List (List Int))×Int)→Option ((Option Layout)×Bool)) (s:(List (List Int))×Int):Option ((Option Layout)×Bool):=
 if (decide (s.2<e)) then
 (app 8 [] d).bind λf=>
 (app 8 f [s.2]).bind λg=>
 (app 24 s.1 [g]).bind λh=>
 b (h,add64 s.2 1)
 else
 a (s.1,add64 c 1)
def zm.l3 (n:Nat) (t0:Model) (a:List (List Int)) (d:Int) (b:((List (List Int))×Int)→Option ((Option Layout)×Bool)) (e:Int) (c:((List (List Int))×Int)→Option ((Option Layout)×Bool)) (s:(List (List Int))×Int):Option ((Option Layout)×Bool):=
 if (decide (s.2<(a.length:Int))) then
 (idx a s.2).bind λf=>
 (idx t0.sorts e).bind λg=>
 loopF (zm.l4 n s.2 c f g) n (s.1,0)
 else
 b (s.1,add64 d 1)
def zm.l2 (n:Nat) (t0:Model) (b:List Place) (c:List Place) (f:Int) (d:((List Place)×(List Place)×Int)→Option ((Option Layout)×Bool)) (a:Table) (e:((List (List Int))×Int)→Option ((Option Layout)×Bool)) (s:(List (List Int))×Int):Option ((Option Layout)×Bool):=
 if (decide (s.2<(a.columns.length:Int))) then
 (idx a.columns s.2).bind λg=>
 loopF (zm.l3 n t0 s.1 s.2 e g) n (([]:List (List Int)),0)
 else
 loopF (zm.l5 n f d a s.1) n (b,c,0)
def zm.l1 (n:Nat) (t0:Model) (a:((List Place)×(List Place)×Int)→Option ((Option Layout)×Bool)) (s:(List Place)×(List Place)×Int):Option ((Option Layout)×Bool):=
 if (decide (s.2.2<(t0.tables.length:Int))) then
 (idx t0.tables s.2.2).bind λb=>
 loopF (zm.l2 n t0 s.1 s.2.1 s.2.2 a b) n ([[]],0)
 else
 some (some ((⟨t0,s.1,s.2.1⟩:Layout)),true)
def zm (n:Nat) (t0:Model):Option ((Option Layout)×Bool):=
 (zfK n t0).bind λa=>
 if (!a) then
 some (none,false)
 else
 loopF (zm.l1 n t0) n (([]:List Place),([]:List Place),0)
def zJ (n:Nat) (t0:Layout) (t1:Question):Option Bool:=
 if (((((decide (t1.e<0))||(decide (t1.f<0)))||(decide ((t0.m.actions.length:Int)≤t1.e)))||(decide ((t0.m.actions.length:Int)≤t1.f)))||(decide (t1.target.index<0))) then
 some false
 else
 if t1.target.hold then
 (idx t0.m.actions t1.e).bind λa=>
 some (decide (t1.target.index<(a.effect.hold.length:Int)))
 else
 some ((decide (t1.e≤t1.f))&&(decide (t1.target.index<(t0.m.constraints.length:Int))))
def zaY (n:Nat) (t0:Swapping) (t1:Int) (t2:Int):Option Int:=
 if (t1 != t0.s.sort) then
 some t2
 else
 if (t2==t0.s.a) then
 some t0.s.b
 else
 if (t2==t0.s.b) then
 some t0.s.a
 else
 some t2
def zp.l1 (n:Nat) (t0:List Int) (t1:List Int) (b:Int→Option Bool) (a:Int):Option Bool:=
 if (decide (a<(t0.length:Int))) then
 (idx t0 a).bind λc=>
 (idx t1 a).bind λd=>
 if (c != d) then
 some false
 else
 b (add64 a 1)
 else
 some true
def zp (n:Nat) (t0:List Int) (t1:List Int):Option Bool:=
 if ((t0.length:Int) != (t1.length:Int)) then
 some false
 else
 loopF (zp.l1 n t0 t1) n 0
def zbj (n:Nat) (t0:Action) (t1:Action) (t2:List Int):Option Bool:=
 grd (!(t0.operation==t1.operation)||(zp n t0.arguments t2).isSome) <|
 some ((t0.operation==t1.operation)&&((zp n t0.arguments t2).getD default))
def zw.l1 (n:Nat) (t0:List Action) (t1:Action→Option Bool) (b:Int→Option Int) (a:Int):Option Int:=
 if (decide (a<(t0.length:Int))) then
 (idx t0 a).bind λc=>
 (t1 c).bind λd=>
 if d then
 some a
 else
 b (add64 a 1)
 else
 some (-1)
def zw (n:Nat) (t0:List Action) (t1:Action→Option Bool):Option Int:=
 loopF (zw.l1 n t0 t1) n 0
def zu.l1 (n:Nat) (t0:Swapping) (a:Table) (b:Place) (c:(Int×Int)→Option Int) (s:Int×Int):Option Int:=
 if (decide (s.2<(b.tuple.length:Int))) then
 (idx b.tuple s.2).bind λd=>
 (idx a.columns s.2).bind λe=>
 (idx t0.layout.m.sorts e).bind λf=>
 (idx a.columns s.2).bind λg=>
 (zaY n t0 g d).bind λh=>
 c (add64 (mul64 s.1 f) h,add64 s.2 1)
 else
 some (add64 a.first s.1)
def zu (n:Nat) (t0:Swapping) (t1:List Place) (t2:Int):Option Int:=
 (idx t1 t2).bind λa=>
 (idx t0.layout.m.tables a.table).bind λb=>
 (idx t1 t2).bind λc=>
 loopF (zu.l1 n t0 b c) n (0,0)
def zbk (n:Nat) (t0:Change) (t1:Change):Option Int:=
 (zR n t0.cell t1.cell).bind λa=>
 some a
def zbE (n:Nat) (t0:Term) (t1:Term):Option Int:=
 (zR n t0.cell t1.cell).bind λa=>
 some a
def zah.l1 (n:Nat) (t0:Swapping) (t1:Row) (b:((List Term)×Int)→Option Row) (s:(List Term)×Int):Option Row:=
 if (decide (s.2<(t1.terms.length:Int))) then
 (idx t1.terms s.2).bind λa=>
 (zu n t0 t0.layout.strict a.cell).bind λc=>
 (app 16 s.1 [(⟨c,a.factor⟩:Term)]).bind λd=>
 b (d,add64 s.2 1)
 else
 (sortO (λq0 q1=>zbE n q0 q1) s.1).bind λe=>
 some (⟨e,t1.bound⟩:Row)
def zah (n:Nat) (t0:Swapping) (t1:Row):Option Row:=
 loopF (zah.l1 n t0 t1) n (([]:List Term),0)
def zk.l3 (n:Nat) (t0:Swapping) (t1:Effect) (d:List Change) (b:List Row) (c:((List Update)×Int)→Option Effect) (s:(List Update)×Int):Option Effect:=
 if (decide (s.2<(t1.updates.length:Int))) then
 (idx t1.updates s.2).bind λa=>
 (zu n t0 t0.layout.merged a.cell).bind λe=>
 (app 24 s.1 [(⟨a.kind,e,a.value⟩:Update)]).bind λf=>
 c (f,add64 s.2 1)
 else
 some (⟨d,b,s.1⟩:Effect)
def zk.l2 (n:Nat) (t0:Swapping) (t1:Effect) (b:List Change) (a:((List Row)×Int)→Option Effect) (s:(List Row)×Int):Option Effect:=
 if (decide (s.2<(t1.hold.length:Int))) then
 (idx t1.hold s.2).bind λc=>
 (zah n t0 c).bind λd=>
 (app 32 s.1 [d]).bind λe=>
 a (e,add64 s.2 1)
 else
 loopF (zk.l3 n t0 t1 b s.1) n (([]:List Update),0)
def zk.l1 (n:Nat) (t0:Swapping) (t1:Effect) (b:((List Change)×Int)→Option Effect) (s:(List Change)×Int):Option Effect:=
 if (decide (s.2<(t1.delta.length:Int))) then
 (idx t1.delta s.2).bind λa=>
 (zu n t0 t0.layout.strict a.cell).bind λc=>
 (app 16 s.1 [(⟨c,a.add⟩:Change)]).bind λd=>
 b (d,add64 s.2 1)
 else
 (sortO (λq0 q1=>zbk n q0 q1) s.1).bind λe=>
 loopF (zk.l2 n t0 t1 e) n (([]:List Row),0)
def zk (n:Nat) (t0:Swapping) (t1:Effect):Option Effect:=
 loopF (zk.l1 n t0 t1) n (([]:List Change),0)
def zj.l1 (n:Nat) (t0:List Term) (t1:List Term) (t2:Term→Term→Option Int) (c:Int→Option Int) (a:Int):Option Int:=
 if (decide (a<(t0.length:Int))) then
 (idx t0 a).bind λd=>
 if (decide ((t1.length:Int)≤a)) then
 some 1
 else
 (idx t1 a).bind λe=>
 (t2 d e).bind λb=>
 if (b != 0) then
 some b
 else
 c (add64 a 1)
 else
 if (decide ((t0.length:Int)<(t1.length:Int))) then
 some (-1)
 else
 some 0
def zj (n:Nat) (t0:List Term) (t1:List Term) (t2:Term→Term→Option Int):Option Int:=
 loopF (zj.l1 n t0 t1 t2) n 0
def zaW.l1 (n:Nat) (t0:List Int) (c:Int→Option Int) (a:Int):Option Int:=
 if (decide (a<(t0.length:Int))) then
 (idx t0 a).bind λb=>
 if (b != 0) then
 some b
 else
 c (add64 a 1)
 else
 some 0
def zaW (n:Nat) (t0:List Int):Option Int:=
 loopF (zaW.l1 n t0) n 0
def zbW (n:Nat) (t0:Term) (t1:Term):Option Int:=
 (zR n t0.cell t1.cell).bind λc=>
 (zR n t0.factor t1.factor).bind λa=>
 (zaW n [c,a]).bind λb=>
 some b
def zc9 (n:Nat) (t0:Row) (t1:Row):Option Int:=
 (zR n t0.bound t1.bound).bind λc=>
 (zj n t0.terms t1.terms (λq0 q1=>zbW n q0 q1)).bind λa=>
 (zaW n [c,a]).bind λb=>
 some b
def zci (n:Nat) (t0:Update) (t1:Update):Option Int:=
 (zR n t0.cell t1.cell).bind λd=>
 (zR n t0.kind t1.kind).bind λa=>
 (zR n t0.value t1.value).bind λb=>
 (zaW n [d,a,b]).bind λc=>
 some c
def zcO (n:Nat) (t0:Effect):Option Effect:=
 (app 32 [] t0.hold).bind λc=>
 (app 24 [] t0.updates).bind λd=>
 (sortO (λq0 q1=>zc9 n q0 q1) c).bind λa=>
 (sortO (λq0 q1=>zci n q0 q1) d).bind λb=>
 some (⟨t0.delta,a,b⟩:Effect)
def zD.l1 (n:Nat) (t0:List Change) (t1:List Change) (b:Int→Option Bool) (a:Int):Option Bool:=
 if (decide (a<(t0.length:Int))) then
 (idx t0 a).bind λc=>
 (idx t1 a).bind λd=>
 if (!decide ((c:Change)=d)) then
 some false
 else
 b (add64 a 1)
 else
 some true
def zD (n:Nat) (t0:List Change) (t1:List Change):Option Bool:=
 if ((t0.length:Int) != (t1.length:Int)) then
 some false
 else
 loopF (zD.l1 n t0 t1) n 0
def zg.l1 (n:Nat) (t0:List Row) (t1:List Row) (t2:Row→Row→Option Bool) (b:Int→Option Bool) (a:Int):Option Bool:=
 if (decide (a<(t0.length:Int))) then
 (idx t0 a).bind λc=>
 (idx t1 a).bind λd=>
 (t2 c d).bind λe=>
 if (!e) then
 some false
 else
 b (add64 a 1)
 else
 some true
def zg (n:Nat) (t0:List Row) (t1:List Row) (t2:Row→Row→Option Bool):Option Bool:=
 if ((t0.length:Int) != (t1.length:Int)) then
 some false
 else
 loopF (zg.l1 n t0 t1 t2) n 0
def zaH (n:Nat) (t0:Row) (t1:Row):Option Bool:=
 grd (!(t0.bound==t1.bound)||(zy n t0.terms t1.terms).isSome) <|
 some ((t0.bound==t1.bound)&&((zy n t0.terms t1.terms).getD default))
def zr.l1 (n:Nat) (t0:List Update) (t1:List Update) (b:Int→Option Bool) (a:Int):Option Bool:=
 if (decide (a<(t0.length:Int))) then
 (idx t0 a).bind λc=>
 (idx t1 a).bind λd=>
 if (!decide ((c:Update)=d)) then
 some false
 else
 b (add64 a 1)
 else
 some true
def zr (n:Nat) (t0:List Update) (t1:List Update):Option Bool:=
 if ((t0.length:Int) != (t1.length:Int)) then
 some false
 else
 loopF (zr.l1 n t0 t1) n 0
def zb8 (n:Nat) (t0:Effect) (t1:Effect):Option Bool:=
 (zcO n t0).bind λa=>
 (zcO n t1).bind λb=>
 (zD n a.delta b.delta).bind λc=>
 grd (!c||(zg n a.hold b.hold (λq0 q1=>zaH n q0 q1)).isSome) <|
 grd (!(c&&((zg n a.hold b.hold (λq0 q1=>zaH n q0 q1)).getD default))||(zr n a.updates b.updates).isSome) <|
 some ((c&&((zg n a.hold b.hold (λq0 q1=>zaH n q0 q1)).getD default))&&((zr n a.updates b.updates).getD default))
def zH.l1 (n:Nat) (t0:Swapping) (b:Action) (c:((List Int)×Int)→Option (Int×Bool)) (s:(List Int)×Int):Option (Int×Bool):=
 if (decide (s.2<(b.arguments.length:Int))) then
 (idx b.arguments s.2).bind λd=>
 (idx t0.layout.m.operations b.operation).bind λe=>
 (idx e.sorts s.2).bind λf=>
 (zaY n t0 f d).bind λg=>
 (app 8 s.1 [g]).bind λh=>
 c (h,add64 s.2 1)
 else
 (zw n t0.layout.m.actions (λq0=>zbj n q0 b s.1)).bind λa=>
 grd ((decide (a<0))||(idx t0.layout.m.actions a).isSome) <|
 grd ((decide (a<0))||(zk n t0 b.effect).isSome) <|
 grd ((decide (a<0))||(zb8 n (((idx t0.layout.m.actions a).getD default).effect) ((zk n t0 b.effect).getD default)).isSome) <|
 if ((decide (a<0))||(!((zb8 n (((idx t0.layout.m.actions a).getD default).effect) ((zk n t0 b.effect).getD default)).getD default))) then
 some (0,false)
 else
 some (a,true)
def zH (n:Nat) (t0:Swapping) (t1:Int):Option (Int×Bool):=
 if ((decide (t1<0))||(decide ((t0.layout.m.actions.length:Int)≤t1))) then
 some (0,false)
 else
 (idx t0.layout.m.actions t1).bind λa=>
 loopF (zH.l1 n t0 a) n (([]:List Int),0)
def zap (n:Nat) (t0:Constraint) (t1:Constraint) (t2:Row):Option Bool:=
 grd (!((t0.kind==0)&&(t0.family==t1.family))||(zaH n t0.row t2).isSome) <|
 some (((t0.kind==0)&&(t0.family==t1.family))&&((zaH n t0.row t2).getD default))
def zo.l2 (n:Nat) (t3:List Constraint) (t4:Constraint→Option Bool) (b:(Int×Int)→Option (Int×Bool)) (s:Int×Int):Option (Int×Bool):=
 if (decide (s.2<(t3.length:Int))) then
 jn (λ(c:Int)=>
 b (c,add64 s.2 1)) λa=>
 (idx t3 s.2).bind λd=>
 (t4 d).bind λe=>
 if (!e) then
 a s.1
 else
 if (s.1==0) then
 some (s.2,true)
 else
 a (sub64 s.1 1)
 else
 some (0,false)
def zo.l1 (n:Nat) (t2:Constraint→Option Bool) (t3:List Constraint) (t4:Constraint→Option Bool) (b:List Constraint) (c:(Int×Int)→Option (Int×Bool)) (s:Int×Int):Option (Int×Bool):=
 if (decide (s.2<(b.length:Int))) then
 jn (λ(d:Int)=>
 c (d,add64 s.2 1)) λa=>
 (idx b s.2).bind λe=>
 (t2 e).bind λf=>
 if f then
 a (add64 s.1 1)
 else
 a s.1
 else
 loopF (zo.l2 n t3 t4) n (s.1,0)
def zo (n:Nat) (t0:List Constraint) (t1:Int) (t2:Constraint→Option Bool) (t3:List Constraint) (t4:Constraint→Option Bool):Option (Int×Bool):=
 (cut t0 0 t1).bind λa=>
 loopF (zo.l1 n t2 t3 t4 a) n (0,0)
def zaI (n:Nat) (t0:Swapping) (t1:Int):Option (Int×Bool):=
 if ((decide (t1<0))||(decide ((t0.layout.m.constraints.length:Int)≤t1))) then
 some (0,false)
 else
 (idx t0.layout.m.constraints t1).bind λa=>
 if (a.kind != 0) then
 some (t1,true)
 else
 (zah n t0 a.row).bind λc=>
 (zo n t0.layout.m.constraints t1 (λq0=>zap n q0 a a.row) t0.layout.m.constraints (λq0=>zap n q0 a c)).bind λb=>
 some (b.1,b.2)
def zc.l2 (n:Nat) (t0:Swapping) (b:Int→Option Bool) (a:Int):Option Bool:=
 if (decide (a<(t0.layout.m.constraints.length:Int))) then
 (zaI n t0 a).bind λc=>
 if (!c.2) then
 some false
 else
 b (add64 a 1)
 else
 some true
def zc.l1 (n:Nat) (t0:Swapping) (b:Int→Option Bool) (a:Int):Option Bool:=
 if (decide (a<(t0.layout.m.actions.length:Int))) then
 (zH n t0 a).bind λc=>
 if (!c.2) then
 some false
 else
 b (add64 a 1)
 else
 loopF (zc.l2 n t0) n 0
def zc (n:Nat) (t0:Swapping):Option Bool:=
 loopF (zc.l1 n t0) n 0
def zf.l3 (n:Nat) (t0:Layout) (c:Int) (g:Int) (a:Int) (e:((List Swapping)×Int)→Option (List Swapping)) (f:((List Swapping)×Int)→Option (List Swapping)) (s:(List Swapping)×Int):Option (List Swapping):=
 if (decide (s.2<g)) then
 jn (λ(d:(List Swapping))=>
 f (d,add64 s.2 1)) λb=>
 (zc n (⟨t0,(⟨c,a,s.2⟩:Swap)⟩:Swapping)).bind λh=>
 if h then
 (app 8 s.1 [(⟨t0,(⟨c,a,s.2⟩:Swap)⟩:Swapping)]).bind λi=>
 b i
 else
 b s.1
 else
 e (s.1,add64 a 1)
def zf.l2 (n:Nat) (t0:Layout) (a:Int) (c:((List Swapping)×Int)→Option (List Swapping)) (b:Int) (d:((List Swapping)×Int)→Option (List Swapping)) (s:(List Swapping)×Int):Option (List Swapping):=
 if (decide (s.2<b)) then
 loopF (zf.l3 n t0 a b s.2 d) n (s.1,add64 s.2 1)
 else
 c (s.1,add64 a 1)
def zf.l1 (n:Nat) (t0:Layout) (a:((List Swapping)×Int)→Option (List Swapping)) (s:(List Swapping)×Int):Option (List Swapping):=
 if (decide (s.2<(t0.m.sorts.length:Int))) then
 (idx t0.m.sorts s.2).bind λb=>
 loopF (zf.l2 n t0 s.2 a b) n (s.1,0)
 else
 some s.1
def zf (n:Nat) (t0:Layout):Option (List Swapping):=
 loopF (zf.l1 n t0) n (([]:List Swapping),0)
def za2 (n:Nat) (t0:Row) (t1:Row):Option Bool:=
 (zaH n t0 t1).bind λa=>
 some a
def za3 (n:Nat) (t0:Row) (t1:Row):Option Bool:=
 (zaH n t0 t1).bind λa=>
 some a
def zO.l2 (n:Nat) (t3:List Row) (t4:Row→Option Bool) (b:(Int×Int)→Option (Int×Bool)) (s:Int×Int):Option (Int×Bool):=
 if (decide (s.2<(t3.length:Int))) then
 jn (λ(c:Int)=>
 b (c,add64 s.2 1)) λa=>
 (idx t3 s.2).bind λd=>
 (t4 d).bind λe=>
 if (!e) then
 a s.1
 else
 if (s.1==0) then
 some (s.2,true)
 else
 a (sub64 s.1 1)
 else
 some (0,false)
def zO.l1 (n:Nat) (t2:Row→Option Bool) (t3:List Row) (t4:Row→Option Bool) (b:List Row) (c:(Int×Int)→Option (Int×Bool)) (s:Int×Int):Option (Int×Bool):=
 if (decide (s.2<(b.length:Int))) then
 jn (λ(d:Int)=>
 c (d,add64 s.2 1)) λa=>
 (idx b s.2).bind λe=>
 (t2 e).bind λf=>
 if f then
 a (add64 s.1 1)
 else
 a s.1
 else
 loopF (zO.l2 n t3 t4) n (s.1,0)
def zO (n:Nat) (t0:List Row) (t1:Int) (t2:Row→Option Bool) (t3:List Row) (t4:Row→Option Bool):Option (Int×Bool):=
 (cut t0 0 t1).bind λa=>
 loopF (zO.l1 n t2 t3 t4 a) n (0,0)
def zbl (n:Nat) (t0:Swapping) (t1:Question):Option (Question×Bool):=
 (zJ n t0.layout t1).bind λl=>
 if (!l) then
 some ((⟨0,0,(⟨false,0⟩:Target)⟩:Question),false)
 else
 (zH n t0 t1.e).bind λa=>
 (zH n t0 t1.f).bind λc=>
 if ((!a.2)||(!c.2)) then
 some ((⟨0,0,(⟨false,0⟩:Target)⟩:Question),false)
 else
 jn (λ(b:Int×Int×Int×Bool)=>
 if (!b.2.2.2) then
 some ((⟨0,0,(⟨false,0⟩:Target)⟩:Question),false)
 else
 some ((⟨b.1,b.2.1,(⟨t1.target.hold,b.2.2.1⟩:Target)⟩:Question),true)) λd=>
 if (!t1.target.hold) then
 (zaI n t0 t1.target.index).bind λi=>
 d ((gmin a.1 c.1),(gmax a.1 c.1),i.1,i.2)
 else
 (idx t0.layout.m.actions t1.e).bind λj=>
 (idx t0.layout.m.actions a.1).bind λo=>
 (idx j.effect.hold t1.target.index).bind λg=>
 (zah n t0 g).bind λk=>
 (zO n j.effect.hold t1.target.index (λq0=>za2 n q0 g) o.effect.hold (λq0=>za3 n q0 k)).bind λh=>
 d (a.1,c.1,h.1,h.2)
def zz.l2 (n:Nat) (g:List Swapping) (i:((GMap Question (List Swap))×(List Question)×Nat)→Option (GMap Question (List Swap))) (j:((GMap Question (List Swap))×(List Question)×Nat×Int)→Option (GMap Question (List Swap))) (s:(GMap Question (List Swap))×(List Question)×Nat×Int):Option (GMap Question (List Swap)):=
 let a:=s.2.1
 let d:=s.2.2.1
 let e:=s.2.2.2
 if (decide (e<(g.length:Int))) then
 jn (λ(c:(GMap Question (List Swap))×(List Question)×Nat)=>
 j (c.1,c.2.1,c.2.2,add64 e 1)) λf=>
 (idx g e).bind λh=>
 (idx a 0).bind λl=>
 (zbl n h l).bind λb=>
 if ((!b.2)||((s.1.get? b.1).isSome)) then
 f (s.1,a,d)
 else
 (idx a 0).bind λm=>
 (app 24 [] ((s.1.get? m).getD [])).bind λo=>
 (app 24 o [h.s]).bind λp=>
 (app 32 a [b.1]).bind λq=>
 f ((s.1.put b.1 p),q,(d+1))
 else
 (cut a 1 (a.length:Int)).bind λk=>
 i (s.1,k,(d+1))
def zz.l1 (n:Nat) (b:List Swapping) (a:((GMap Question (List Swap))×(List Question)×Nat)→Option (GMap Question (List Swap))) (s:(GMap Question (List Swap))×(List Question)×Nat):Option (GMap Question (List Swap)):=
 if (decide (0<(s.2.1.length:Int))) then
 loopF (zz.l2 n b a) n (s.1,s.2.1,s.2.2,0)
 else
 some s.1
def zz (n:Nat) (t0:Layout) (t1:Question):Option (GMap Question (List Swap)):=
 (zf n t0).bind λa=>
 loopF (zz.l1 n a) n (((GMap.empty:GMap Question (List Swap)).put t1 []),([t1]:List Question),0)
def zq.l1 (n:Nat) (t0:List Question) (t1:Question→Question→Option Int) (i:(Int×Int×Bool×Int×Int)→Option Question) (s:Int×Int×Bool×Int×Int):Option Question:=
 let d:=s.2.2.1
 let g:=s.2.2.2.1
 let c:=s.2.2.2.2
 if (decide (c<(t0.length:Int))) then
 jn (λ(a:Int×Int×Bool×Int)=>
 i (a.1,a.2.1,a.2.2.1,a.2.2.2,add64 c 1)) λh=>
 (idx t0 c).bind λj=>
 (t1 j (⟨s.1,s.2.1,(⟨d,g⟩:Target)⟩:Question)).bind λk=>
 if (decide (k<0)) then
 (idx t0 c).bind λb=>
 h (b.e,b.f,b.target.hold,b.target.index)
 else
 h (s.1,s.2.1,d,g)
 else
 some (⟨s.1,s.2.1,(⟨d,g⟩:Target)⟩:Question)
def zq (n:Nat) (t0:List Question) (t1:Question→Question→Option Int):Option Question:=
 if (decide ((t0.length:Int)<1)) then
 none
 else
 (idx t0 0).bind λa=>
 loopF (zq.l1 n t0 t1) n (a.e,a.f,a.target.hold,a.target.index,1)
def zb2 (n:Nat) (t0:Question):Option Int:=
 if t0.target.hold then
 some 1
 else
 some 0
def zaZ (n:Nat) (t0:Question) (t1:Question):Option Int:=
 (zR n t0.e t1.e).bind λa=>
 (zR n t0.f t1.f).bind λb=>
 (zb2 n t0).bind λc=>
 (zb2 n t1).bind λd=>
 (zR n c d).bind λg=>
 (zR n t0.target.index t1.target.index).bind λh=>
 (zaW n [a,b,g,h]).bind λi=>
 some i
def zfk (n:Nat) (m:GMap Question (List Swap)):Option (List Question):=
 if decide (m.es.length*32≤140737488355328)=true then permA (m.es.map (·.2.1)) (sortO λq0 q1=>zaZ n q0 q1) else none
def zii (n:Nat) (m:GMap Question (List Swap)):Option Question:=
 if decide (m.es.length*32≤140737488355328)=true then permA (m.es.map (·.2.1)) (λks=>zq n ks (λq0 q1=>zaZ n q0 q1)) else none
def zba (n:Nat) (t0:Model) (t1:Question):Option (Question×(List Swap)):=
 (zm n t0).bind λa=>
 grd ((!a.2)||(a.1).isSome) <|
 grd ((!a.2)||(zJ n ((a.1).getD default) t1).isSome) <|
 if ((!a.2)||(!((zJ n ((a.1).getD default) t1).getD default))) then
 some ((⟨0,0,(⟨false,0⟩:Target)⟩:Question),[])
 else
 (a.1).bind λc=>
 (zz n c t1).bind λe=>
 (zii n e).bind λb=>
 (a.1).bind λd=>
 (zz n d b).bind λf=>
 some (b,(f.get? t1).getD [])
def zbf (n:Nat) (t0:Layout) (t1:Swap):Option Bool:=
 grd (!((((decide (0≤t1.sort))&&(decide (t1.sort<(t0.m.sorts.length:Int))))&&(decide (0≤t1.a)))&&(decide (t1.a<t1.b)))||(idx t0.m.sorts t1.sort).isSome) <|
 some (((((decide (0≤t1.sort))&&(decide (t1.sort<(t0.m.sorts.length:Int))))&&(decide (0≤t1.a)))&&(decide (t1.a<t1.b)))&&(decide (t1.b<((idx t0.m.sorts t1.sort).getD default))))
def zcX (n:Nat) (t0:Model) (t1:Swap):Option ((Option Swapping)×Bool):=
 (zm n t0).bind λa=>
 grd ((!a.2)||(a.1).isSome) <|
 grd ((!a.2)||(zbf n ((a.1).getD default) t1).isSome) <|
 if ((!a.2)||(!((zbf n ((a.1).getD default) t1).getD default))) then
 some (none,false)
 else
 (a.1).bind λb=>
 some (some (⟨b,t1⟩:Swapping),true)
def zdT.l1 (n:Nat) (t2:List Int) (a:(Option Swapping)×Bool) (f:((List Int)×Int)→Option ((List Int)×Bool)) (s:(List Int)×Int):Option ((List Int)×Bool):=
 if (decide (s.2<(t2.length:Int))) then
 (idx t2 s.2).bind λg=>
 (a.1).bind λd=>
 (a.1).bind λe=>
 (zu n e d.layout.strict s.2).bind λb=>
 (idx s.1 b).bind λh=>
 (sto s.1 b g).bind λc=>
 f (c,add64 s.2 1)
 else
 some (s.1,true)
def zdT (n:Nat) (t0:Model) (t1:Swap) (t2:List Int):Option ((List Int)×Bool):=
 (zcX n t0 t1).bind λa=>
 grd ((!a.2)||(a.1).isSome) <|
 if ((!a.2)||((t2.length:Int) != (((((a.1).getD default).layout).strict).length:Int))) then
 some ([],false)
 else
 (mkl 8 (t2.length:Int) (0:Int)).bind λb=>
 loopF (zdT.l1 n t2 a) n (b,0)
def zh1 (n:Nat) (t0:Model) (t1:Swap) (t2:Int):Option (Int×Bool):=
 (zcX n t0 t1).bind λa=>
 grd (((!a.2)||(decide (t2<0)))||(a.1).isSome) <|
 if (((!a.2)||(decide (t2<0)))||(decide ((((((a.1).getD default).layout).strict).length:Int)≤t2))) then
 some (0,false)
 else
 (a.1).bind λb=>
 (a.1).bind λc=>
 (zu n c b.layout.strict t2).bind λd=>
 some (d,true)
def zal.l1 (n:Nat) (a:List Swapping) (b:((List Swap)×Int)→Option (List Swap)) (s:(List Swap)×Int):Option (List Swap):=
 if (decide (s.2<(a.length:Int))) then
 (idx a s.2).bind λc=>
 (app 24 s.1 [c.s]).bind λd=>
 b (d,add64 s.2 1)
 else
 some s.1
def zal (n:Nat) (t0:Model):Option (List Swap):=
 (zm n t0).bind λa=>
 if (!a.2) then
 some []
 else
 (a.1).bind λb=>
 (zf n b).bind λc=>
 loopF (zal.l1 n c) n (([]:List Swap),0)
def zag (n:Nat) (t0:Model) (t1:Question):Option (List Question):=
 (zm n t0).bind λa=>
 grd ((!a.2)||(a.1).isSome) <|
 grd ((!a.2)||(zJ n ((a.1).getD default) t1).isSome) <|
 if ((!a.2)||(!((zJ n ((a.1).getD default) t1).getD default))) then
 some []
 else
 (a.1).bind λb=>
 (zz n b t1).bind λc=>
 (zfk n c).bind λd=>
 some d
def zb.l1 (n:Nat) (t0:List Swap) (t1:List Swap) (b:Int→Option Bool) (a:Int):Option Bool:=
 if (decide (a<(t0.length:Int))) then
 (idx t0 a).bind λc=>
 (idx t1 a).bind λd=>
 if (!decide ((c:Swap)=d)) then
 some false
 else
 b (add64 a 1)
 else
 some true
def zb (n:Nat) (t0:List Swap) (t1:List Swap):Option Bool:=
 if ((t0.length:Int) != (t1.length:Int)) then
 some false
 else
 loopF (zb.l1 n t0 t1) n 0
def zb7 (n:Nat) (t0:Model) (t1:Question):Option Bool:=
 (zm n t0).bind λa=>
 grd (!a.2||(a.1).isSome) <|
 grd (!a.2||(zJ n ((a.1).getD default) t1).isSome) <|
 some (a.2&&((zJ n ((a.1).getD default) t1).getD default))
def zcW (n:Nat) (t0:Question) (t1:Question):Option Bool:=
 (zaZ n t0 t1).bind λa=>
 some (decide (a<0))
def zb6 (n:Nat) (t0:Model) (t1:Swap):Option Bool:=
 (zcX n t0 t1).bind λa=>
 grd (!a.2||(a.1).isSome) <|
 grd (!a.2||(zc n ((a.1).getD default)).isSome) <|
 some (a.2&&((zc n ((a.1).getD default)).getD default))
def zhh (n:Nat):Option Bool:=
 (zeh n ).bind λb=>
 (zba n b (⟨1,1,(⟨false,3⟩:Target)⟩:Question)).bind λa=>
 (zdT n b (⟨0,0,2⟩:Swap) [1,0,0]).bind λc=>
 (zh1 n b (⟨0,0,2⟩:Swap) 0).bind λd=>
 (zal n b).bind λe=>
 grd (!((e.length:Int)==3)||(zag n b (⟨1,1,(⟨false,3⟩:Target)⟩:Question)).isSome) <|
 grd (!((((e.length:Int)==3)&&((((zag n b (⟨1,1,(⟨false,3⟩:Target)⟩:Question)).getD default).length:Int)==3))&&(decide ((a.1:Question)=(⟨0,0,(⟨false,1⟩:Target)⟩:Question))))||(zb n a.2 [(⟨0,0,1⟩:Swap)]).isSome) <|
 grd (!((((((e.length:Int)==3)&&((((zag n b (⟨1,1,(⟨false,3⟩:Target)⟩:Question)).getD default).length:Int)==3))&&(decide ((a.1:Question)=(⟨0,0,(⟨false,1⟩:Target)⟩:Question))))&&((zb n a.2 [(⟨0,0,1⟩:Swap)]).getD default))&&c.2)||(zp n c.1 [0,0,1]).isSome) <|
 grd (!(((((((((e.length:Int)==3)&&((((zag n b (⟨1,1,(⟨false,3⟩:Target)⟩:Question)).getD default).length:Int)==3))&&(decide ((a.1:Question)=(⟨0,0,(⟨false,1⟩:Target)⟩:Question))))&&((zb n a.2 [(⟨0,0,1⟩:Swap)]).getD default))&&c.2)&&((zp n c.1 [0,0,1]).getD default))&&d.2)&&(d.1==2))||(zb7 n b (⟨1,1,(⟨false,3⟩:Target)⟩:Question)).isSome) <|
 grd (!((((((((((e.length:Int)==3)&&((((zag n b (⟨1,1,(⟨false,3⟩:Target)⟩:Question)).getD default).length:Int)==3))&&(decide ((a.1:Question)=(⟨0,0,(⟨false,1⟩:Target)⟩:Question))))&&((zb n a.2 [(⟨0,0,1⟩:Swap)]).getD default))&&c.2)&&((zp n c.1 [0,0,1]).getD default))&&d.2)&&(d.1==2))&&((zb7 n b (⟨1,1,(⟨false,3⟩:Target)⟩:Question)).getD default))||(zcW n a.1 (⟨1,1,(⟨false,3⟩:Target)⟩:Question)).isSome) <|
 grd (!(((((((((((e.length:Int)==3)&&((((zag n b (⟨1,1,(⟨false,3⟩:Target)⟩:Question)).getD default).length:Int)==3))&&(decide ((a.1:Question)=(⟨0,0,(⟨false,1⟩:Target)⟩:Question))))&&((zb n a.2 [(⟨0,0,1⟩:Swap)]).getD default))&&c.2)&&((zp n c.1 [0,0,1]).getD default))&&d.2)&&(d.1==2))&&((zb7 n b (⟨1,1,(⟨false,3⟩:Target)⟩:Question)).getD default))&&((zcW n a.1 (⟨1,1,(⟨false,3⟩:Target)⟩:Question)).getD default))||(idx a.2 0).isSome) <|
 grd (!(((((((((((e.length:Int)==3)&&((((zag n b (⟨1,1,(⟨false,3⟩:Target)⟩:Question)).getD default).length:Int)==3))&&(decide ((a.1:Question)=(⟨0,0,(⟨false,1⟩:Target)⟩:Question))))&&((zb n a.2 [(⟨0,0,1⟩:Swap)]).getD default))&&c.2)&&((zp n c.1 [0,0,1]).getD default))&&d.2)&&(d.1==2))&&((zb7 n b (⟨1,1,(⟨false,3⟩:Target)⟩:Question)).getD default))&&((zcW n a.1 (⟨1,1,(⟨false,3⟩:Target)⟩:Question)).getD default))||(zb6 n b ((idx a.2 0).getD default)).isSome) <|
 some ((((((((((((e.length:Int)==3)&&((((zag n b (⟨1,1,(⟨false,3⟩:Target)⟩:Question)).getD default).length:Int)==3))&&(decide ((a.1:Question)=(⟨0,0,(⟨false,1⟩:Target)⟩:Question))))&&((zb n a.2 [(⟨0,0,1⟩:Swap)]).getD default))&&c.2)&&((zp n c.1 [0,0,1]).getD default))&&d.2)&&(d.1==2))&&((zb7 n b (⟨1,1,(⟨false,3⟩:Target)⟩:Question)).getD default))&&((zcW n a.1 (⟨1,1,(⟨false,3⟩:Target)⟩:Question)).getD default))&&((zb6 n b ((idx a.2 0).getD default)).getD default))
def zcf (n:Nat) (t0:Question) (t1:Question):Option Bool:=
 if (t0.e != t1.e) then
 some (decide (t0.e<t1.e))
 else
 if (t0.f != t1.f) then
 some (decide (t0.f<t1.f))
 else
 if (t0.target.hold != t1.target.hold) then
 some (!t0.target.hold)
 else
 some (decide (t0.target.index<t1.target.index))
def zcK.l1 (n:Nat) (t0:List Int) (t1:List Table) (c:Int→Option Bool) (a:Int):Option Bool:=
 if (decide (a<(t1.length:Int))) then
 (idx t1 a).bind λb=>
 grd ((decide (40<(b.name.length:Int)))||(idx t1 a).isSome) <|
 if ((decide (40<(b.name.length:Int)))||(decide (12<((((idx t1 a).getD default).columns).length:Int)))) then
 some false
 else
 c (add64 a 1)
 else
 some ((decide ((t0.length:Int)≤12))&&(decide ((t1.length:Int)≤20)))
def zcK (n:Nat) (t0:List Int) (t1:List Table):Option Bool:=
 loopF (zcK.l1 n t0 t1) n 0
def zt.l5 (n:Nat) (f:Int) (c:Int→Option Bool) (b:Action) (d:Int→Option Bool) (a:Int):Option Bool:=
 if (decide (a<(b.effect.hold.length:Int))) then
 (idx b.effect.hold a).bind λe=>
 if (decide (20<(e.terms.length:Int))) then
 some false
 else
 d (add64 a 1)
 else
 c (add64 f 1)
def zt.l4 (n:Nat) (t0:Model) (c:Int→Option Bool) (b:Int):Option Bool:=
 if (decide (b<(t0.actions.length:Int))) then
 (idx t0.actions b).bind λa=>
 (idx t0.actions b).bind λd=>
 if ((((decide (6<(d.arguments.length:Int)))||(decide (20<(a.effect.delta.length:Int))))||(decide (10<(a.effect.hold.length:Int))))||(decide (40<(a.effect.updates.length:Int)))) then
 some false
 else
 loopF (zt.l5 n b c a) n 0
 else
 some true
def zt.l3 (n:Nat) (t0:Model) (c:Int→Option Bool) (a:Int):Option Bool:=
 if (decide (a<(t0.operations.length:Int))) then
 (idx t0.operations a).bind λb=>
 grd ((decide (40<(b.name.length:Int)))||(idx t0.operations a).isSome) <|
 if ((decide (40<(b.name.length:Int)))||(decide (6<((((idx t0.operations a).getD default).sorts).length:Int)))) then
 some false
 else
 c (add64 a 1)
 else
 loopF (zt.l4 n t0) n 0
def zt.l2 (n:Nat) (t0:Model) (b:Int→Option Bool) (a:Int):Option Bool:=
 if (decide (a<(t0.constraints.length:Int))) then
 (idx t0.constraints a).bind λc=>
 if (decide (20<(c.row.terms.length:Int))) then
 some false
 else
 b (add64 a 1)
 else
 loopF (zt.l3 n t0) n 0
def zt.l1 (n:Nat) (t0:Model) (b:Int→Option Bool) (a:Int):Option Bool:=
 if (decide (a<(t0.families.length:Int))) then
 (idx t0.families a).bind λc=>
 if (decide (40<(c.length:Int))) then
 some false
 else
 b (add64 a 1)
 else
 loopF (zt.l2 n t0) n 0
def zt (n:Nat) (t0:Model):Option Bool:=
 grd ((((((((decide (8<(t0.sorts.length:Int)))||(decide (6<(t0.tables.length:Int))))||(decide (20<(t0.families.length:Int))))||(decide (60<(t0.constraints.length:Int))))||(decide (8<(t0.operations.length:Int))))||(decide (30<(t0.actions.length:Int))))||(decide (12<(t0.hides.length:Int))))||(zcK n t0.sorts t0.tables).isSome) <|
 if ((((((((decide (8<(t0.sorts.length:Int)))||(decide (6<(t0.tables.length:Int))))||(decide (20<(t0.families.length:Int))))||(decide (60<(t0.constraints.length:Int))))||(decide (8<(t0.operations.length:Int))))||(decide (30<(t0.actions.length:Int))))||(decide (12<(t0.hides.length:Int))))||(!((zcK n t0.sorts t0.tables).getD default))) then
 some false
 else
 loopF (zt.l1 n t0) n 0
def za9.l1 (n:Nat) (t0:List Int) (c:Int→Option Bool) (a:Int):Option Bool:=
 if (decide (a<(t0.length:Int))) then
 (idx t0 a).bind λb=>
 grd ((decide (b<1))||(idx t0 a).isSome) <|
 if ((decide (b<1))||(decide (6<((idx t0 a).getD default)))) then
 some false
 else
 c (add64 a 1)
 else
 some true
def za9 (n:Nat) (t0:List Int):Option Bool:=
 loopF (za9.l1 n t0) n 0
def zak.l1 (n:Nat) (t0:List Int) (t1:List Int) (b:(Int×Int)→Option Int) (s:Int×Int):Option Int:=
 if (decide (s.2<(t1.length:Int))) then
 (idx t1 s.2).bind λa=>
 grd ((decide (a<0))||(idx t1 s.2).isSome) <|
 if ((decide (a<0))||(decide ((t0.length:Int)≤((idx t1 s.2).getD default)))) then
 some 0
 else
 (idx t1 s.2).bind λc=>
 (idx t0 c).bind λd=>
 b (mul64 s.1 d,add64 s.2 1)
 else
 some s.1
def zak (n:Nat) (t0:List Int) (t1:List Int):Option Int:=
 grd ((decide (3<(t1.length:Int)))||(za9 n t0).isSome) <|
 if ((decide (3<(t1.length:Int)))||(!((za9 n t0).getD default))) then
 some 0
 else
 loopF (zak.l1 n t0 t1) n (1,0)
def zaU (n:Nat) (t0:Int):Option Bool:=
 some ((((t0==9)||(t0==10))||(t0==13))||(t0==32))
def zbe.l2 (n:Nat) (t0:List UInt8) (b:Int→Option Int) (c:Int→Option Int) (a:Int):Option Int:=
 grd (!(decide (a<(t0.length:Int)))||(sidx t0 a).isSome) <|
 if ((decide (a<(t0.length:Int)))&&(((sidx t0 a).getD default) != 10)) then
 c (add64 a 1)
 else
 b a
def zbe.l1 (n:Nat) (t0:List UInt8) (b:Int→Option Int) (a:Int):Option Int:=
 grd (!(decide (a<(t0.length:Int)))||(sidx t0 a).isSome) <|
 grd (!(decide (a<(t0.length:Int)))||(zaU n ((sidx t0 a).getD default)).isSome) <|
 grd (!(decide (a<(t0.length:Int)))||(((zaU n ((sidx t0 a).getD default)).getD default)||(sidx t0 a).isSome)) <|
 if ((decide (a<(t0.length:Int)))&&(((zaU n ((sidx t0 a).getD default)).getD default)||(((sidx t0 a).getD default)==35))) then
 (sidx t0 a).bind λc=>
 if (c==35) then
 loopF (zbe.l2 n t0 b) n a
 else
 b (add64 a 1)
 else
 some a
def zbe (n:Nat) (t0:List UInt8) (t1:Int):Option Int:=
 loopF (zbe.l1 n t0) n t1
def zaO (n:Nat) (t0:Int):Option Bool:=
 some ((decide (97≤t0))&&(decide (t0≤122)))
def za0 (n:Nat) (t0:Int):Option Bool:=
 some ((decide (48≤t0))&&(decide (t0≤57)))
def ze7 (n:Nat):Option (List (List UInt8)):=
 some [[115,111,114,116],[114,101,108,97,116,105,111,110],[99,111,117,110,116,101,114],[115,101,116],[114,101,103,105,115,116,101,114],[105,110,118,97,114,105,97,110,116],[111,112,101,114,97,116,105,111,110],[107,101,121],[114,101,102,101,114,101,110,99,101],[116,111],[99,111,117,110,116],[97,99,121,99,108,105,99],[97,108,108],[115,117,109],[105,110],[97,100,100,119,105,110,115],[114,101,109,111,118,101,119,105,110,115],[108,97,115,116],[109,117,108,116,105],[104,105,100,101],[111,114,100,101,114,101,100],[114,101,113,117,105,114,101],[104,111,108,100],[105,110,115,101,114,116],[100,101,108,101,116,101],[97,100,100],[102,114,111,109],[112,117,116],[100,114,111,112],[97,115,115,105,103,110],[102,111,114],[119,104,101,114,101],[97,110,100],[111,114],[110,111,116]]
def zcv.l1 (n:Nat) (t0:List (List UInt8)) (t1:List UInt8) (b:Int→Option Bool) (a:Int):Option Bool:=
 if (decide (a<(t0.length:Int))) then
 (idx t0 a).bind λc=>
 if (decide (c=t1)) then
 some true
 else
 b (add64 a 1)
 else
 some false
def zcv (n:Nat) (t0:List (List UInt8)) (t1:List UInt8):Option Bool:=
 loopF (zcv.l1 n t0 t1) n 0
def zfO (n:Nat):Option (List (List UInt8)):=
 some [[61,61],[33,61],[60,61],[62,61],[46,46],[60],[62],[61],[43],[45],[42],[40],[41],[123],[125],[44],[58],[59]]
def zbh.l1 (n:Nat) (t0:List UInt8) (t1:Int) (c:List (List UInt8)) (d:Int→Option Int) (b:Int):Option Int:=
 if (decide (b<(c.length:Int))) then
 (idx c b).bind λa=>
 grd (!(decide (add64 t1 (a.length:Int)≤(t0.length:Int)))||(cut t0 t1 (add64 t1 (a.length:Int))).isSome) <|
 grd (!(decide (add64 t1 (a.length:Int)≤(t0.length:Int)))||(idx c b).isSome) <|
 if ((decide (add64 t1 (a.length:Int)≤(t0.length:Int)))&&(decide (((cut t0 t1 (add64 t1 (a.length:Int))).getD default)=((idx c b).getD default)))) then
 some (a.length:Int)
 else
 d (add64 b 1)
 else
 some 0
def zbh (n:Nat) (t0:List UInt8) (t1:Int):Option Int:=
 (zfO n ).bind λa=>
 loopF (zbh.l1 n t0 t1 a) n 0
def zay.l3 (n:Nat) (t0:List UInt8) (b:Int→Option (Int×Int)) (a:Int):Option (Int×Int):=
 grd (!(decide (a<(t0.length:Int)))||(sidx t0 a).isSome) <|
 grd (!(decide (a<(t0.length:Int)))||(zaU n ((sidx t0 a).getD default)).isSome) <|
 grd (!((decide (a<(t0.length:Int)))&&(!((zaU n ((sidx t0 a).getD default)).getD default)))||(sidx t0 a).isSome) <|
 grd (!(((decide (a<(t0.length:Int)))&&(!((zaU n ((sidx t0 a).getD default)).getD default)))&&(((sidx t0 a).getD default) != 35))||(sidx t0 a).isSome) <|
 grd (!(((decide (a<(t0.length:Int)))&&(!((zaU n ((sidx t0 a).getD default)).getD default)))&&(((sidx t0 a).getD default) != 35))||(zaO n ((sidx t0 a).getD default)).isSome) <|
 grd (!((((decide (a<(t0.length:Int)))&&(!((zaU n ((sidx t0 a).getD default)).getD default)))&&(((sidx t0 a).getD default) != 35))&&(!((zaO n ((sidx t0 a).getD default)).getD default)))||(sidx t0 a).isSome) <|
 grd (!((((decide (a<(t0.length:Int)))&&(!((zaU n ((sidx t0 a).getD default)).getD default)))&&(((sidx t0 a).getD default) != 35))&&(!((zaO n ((sidx t0 a).getD default)).getD default)))||(za0 n ((sidx t0 a).getD default)).isSome) <|
 grd (!(((((decide (a<(t0.length:Int)))&&(!((zaU n ((sidx t0 a).getD default)).getD default)))&&(((sidx t0 a).getD default) != 35))&&(!((zaO n ((sidx t0 a).getD default)).getD default)))&&(!((za0 n ((sidx t0 a).getD default)).getD default)))||(zbh n t0 a).isSome) <|
 if ((((((decide (a<(t0.length:Int)))&&(!((zaU n ((sidx t0 a).getD default)).getD default)))&&(((sidx t0 a).getD default) != 35))&&(!((zaO n ((sidx t0 a).getD default)).getD default)))&&(!((za0 n ((sidx t0 a).getD default)).getD default)))&&(((zbh n t0 a).getD default)==0)) then
 b (add64 a 1)
 else
 some (5,a)
def zay.l2 (n:Nat) (t0:List UInt8) (b:Int→Option (Int×Int)) (a:Int):Option (Int×Int):=
 grd (!(decide (a<(t0.length:Int)))||(sidx t0 a).isSome) <|
 grd (!(decide (a<(t0.length:Int)))||(za0 n ((sidx t0 a).getD default)).isSome) <|
 if ((decide (a<(t0.length:Int)))&&((za0 n ((sidx t0 a).getD default)).getD default)) then
 b (add64 a 1)
 else
 some (3,a)
def zay.l1 (n:Nat) (t0:List UInt8) (t1:Int) (b:Int→Option (Int×Int)) (a:Int):Option (Int×Int):=
 grd (!(decide (a<(t0.length:Int)))||(sidx t0 a).isSome) <|
 grd (!(decide (a<(t0.length:Int)))||(zaO n ((sidx t0 a).getD default)).isSome) <|
 grd (!(decide (a<(t0.length:Int)))||(((zaO n ((sidx t0 a).getD default)).getD default)||(sidx t0 a).isSome)) <|
 grd (!(decide (a<(t0.length:Int)))||(((zaO n ((sidx t0 a).getD default)).getD default)||(za0 n ((sidx t0 a).getD default)).isSome)) <|
 grd (!(decide (a<(t0.length:Int)))||((((zaO n ((sidx t0 a).getD default)).getD default)||((za0 n ((sidx t0 a).getD default)).getD default))||(sidx t0 a).isSome)) <|
 if ((decide (a<(t0.length:Int)))&&((((zaO n ((sidx t0 a).getD default)).getD default)||((za0 n ((sidx t0 a).getD default)).getD default))||(((sidx t0 a).getD default)==95))) then
 b (add64 a 1)
 else
 (ze7 n ).bind λc=>
 (cut t0 t1 a).bind λd=>
 (zcv n c d).bind λe=>
 if e then
 some (2,a)
 else
 some (1,a)
def zay (n:Nat) (t0:List UInt8) (t1:Int):Option (Int×Int):=
 (sidx t0 t1).bind λb=>
 (zaO n b).bind λc=>
 if c then
 loopF (zay.l1 n t0 t1) n t1
 else
 (sidx t0 t1).bind λd=>
 (za0 n d).bind λe=>
 if e then
 loopF (zay.l2 n t0) n t1
 else
 (zbh n t0 t1).bind λa=>
 if (decide (0<a)) then
 some (4,add64 t1 a)
 else
 loopF (zay.l3 n t0) n t1
def zcQ.l1 (n:Nat) (t0:List UInt8) (c:((List Token)×Int)→Option ((List Token)×Int)) (s:(List Token)×Int):Option ((List Token)×Int):=
 (zbe n t0 s.2).bind λd=>
 if (decide (d<(t0.length:Int))) then
 (zbe n t0 s.2).bind λb=>
 (zay n t0 b).bind λa=>
 (app 32 s.1 [(⟨a.1,s.2,b,a.2⟩:Token)]).bind λe=>
 c (e,a.2)
 else
 (app 32 s.1 [(⟨0,s.2,(t0.length:Int),(t0.length:Int)⟩:Token)]).bind λf=>
 some (f,0)
def zcQ (n:Nat) (t0:List UInt8):Option ((List Token)×Int):=
 if (decide (4096<(t0.length:Int))) then
 some ([],8)
 else
 loopF (zcQ.l1 n t0) n (([]:List Token),0)
def zgN (n:Nat) (t0:List UInt8):Option Int:=
 (zcQ n t0).bind λa=>
 grd (((a.2 != 0)||((a.1.length:Int) != 2))||(idx a.1 0).isSome) <|
 grd ((((a.2 != 0)||((a.1.length:Int) != 2))||((((idx a.1 0).getD default).at_) != 0))||(idx a.1 0).isSome) <|
 if ((((a.2 != 0)||((a.1.length:Int) != 2))||((((idx a.1 0).getD default).at_) != 0))||((((idx a.1 0).getD default).end_) != (t0.length:Int))) then
 some 0
 else
 (idx a.1 0).bind λb=>
 some b.kind
def zft (n:Nat) (t0:List UInt8):Option Bool:=
 (zgN n t0).bind λa=>
 some ((a==1)&&(decide ((t0.length:Int)≤16)))
def zb0 (n:Nat) (t0:Int):Option Bool:=
 some ((t0==0)||(t0==1))
def zaF.l2 (n:Nat) (t0:List Int) (t1:List Table) (c:Int) (d:Int) (k:Int) (f:(Int×Int)→Option Bool) (a:Table) (g:Int→Option Bool) (e:Int):Option Bool:=
 if (decide (e<k)) then
 (idx t1 e).bind λi=>
 if (decide (i.name=a.name)) then
 some false
 else
 g (add64 e 1)
 else
 (zak n t0 a.columns).bind λb=>
 (zft n a.name).bind λj=>
 if ((((!j)||(decide (a.kind<0)))||(decide (5<a.kind)))||(b==0)) then
 some false
 else
 if (((decide (a.range.hi<a.range.lo))||(decide (a.range.lo<(-9999))))||(decide (9999<a.range.hi))) then
 some false
 else
 if ((((a.kind==0)||(a.kind==2))||(a.kind==3))&&((a.range.lo != 0)||(a.range.hi != 1))) then
 some false
 else
 (zb0 n a.kind).bind λh=>
 if h then
 if (a.first != c) then
 some false
 else
 f (add64 c b,d)
 else
 if (a.first != d) then
 some false
 else
 f (c,add64 d b)
def zaF.l1 (n:Nat) (t0:List Int) (t1:List Table) (c:(Int×Int×Int)→Option Bool) (s:Int×Int×Int):Option Bool:=
 if (decide (s.2.2<(t1.length:Int))) then
 jn (λ(a:Int×Int)=>
 c (a.1,a.2,add64 s.2.2 1)) λb=>
 (idx t1 s.2.2).bind λd=>
 loopF (zaF.l2 n t0 t1 s.1 s.2.1 s.2.2 b d) n 0
 else
 some ((decide (s.1≤128))&&(decide (s.2.1≤64)))
def zaF (n:Nat) (t0:List Int) (t1:List Table):Option Bool:=
 grd ((decide (4<(t0.length:Int)))||(za9 n t0).isSome) <|
 if (((decide (4<(t0.length:Int)))||(!((za9 n t0).getD default)))||(decide (12<(t1.length:Int)))) then
 some false
 else
 loopF (zaF.l1 n t0 t1) n (0,0,0)
def zaP.l2 (n:Nat) (t0:List Int) (t1:List Table) (t2:Bool) (a:Int) (c:((List Range)×Int)→Option (List Range)) (d:((List Range)×Int)→Option (List Range)) (s:(List Range)×Int):Option (List Range):=
 (idx t1 a).bind λe=>
 (zb0 n e.kind).bind λb=>
 grd (!(b==t2)||(idx t1 a).isSome) <|
 grd (!(b==t2)||(zak n t0 (((idx t1 a).getD default).columns)).isSome) <|
 if ((b==t2)&&(decide (s.2<((zak n t0 (((idx t1 a).getD default).columns)).getD default)))) then
 (idx t1 a).bind λf=>
 (app 16 s.1 [f.range]).bind λg=>
 d (g,add64 s.2 1)
 else
 c (s.1,add64 a 1)
def zaP.l1 (n:Nat) (t0:List Int) (t1:List Table) (t2:Bool) (a:((List Range)×Int)→Option (List Range)) (s:(List Range)×Int):Option (List Range):=
 if (decide (s.2<(t1.length:Int))) then
 loopF (zaP.l2 n t0 t1 t2 s.2 a) n (s.1,0)
 else
 some s.1
def zaP (n:Nat) (t0:List Int) (t1:List Table) (t2:Bool):Option (List Range):=
 (zaF n t0 t1).bind λa=>
 if (!a) then
 some ([]:List Range)
 else
 loopF (zaP.l1 n t0 t1 t2) n (([]:List Range),0)
def zcm (n:Nat) (t0:Model):Option (List Range):=
 (zaP n t0.sorts t0.tables true).bind λa=>
 some a
def zbM.l2 (n:Nat) (a:List Range) (d:(Int×Int)→Option Bool) (s:Int×Int):Option Bool:=
 if (decide (s.2<(a.length:Int))) then
 (idx a s.2).bind λb=>
 (idx a s.2).bind λc=>
 if (decide (4096<mul64 s.1 (add64 (sub64 b.hi c.lo) 1))) then
 some false
 else
 d (mul64 s.1 (add64 (sub64 b.hi c.lo) 1),add64 s.2 1)
 else
 some true
def zbM.l1 (n:Nat) (t0:Model) (c:Int→Option Bool) (a:Int):Option Bool:=
 if (decide (a<(t0.actions.length:Int))) then
 (idx t0.actions a).bind λd=>
 if (decide (4<(d.effect.hold.length:Int))) then
 some false
 else
 c (add64 a 1)
 else
 (zcm n t0).bind λb=>
 if (decide (12<(b.length:Int))) then
 some false
 else
 loopF (zbM.l2 n b) n (1,0)
def zbM (n:Nat) (t0:Model):Option Bool:=
 (zt n t0).bind λa=>
 if (((!a)||(decide (12<(t0.actions.length:Int))))||(decide (40<(t0.constraints.length:Int)))) then
 some false
 else
 loopF (zbM.l1 n t0) n 0
def zav.l1 (n:Nat) (t0:List (List UInt8)) (c:Int→Option Bool) (a:Int):Option Bool:=
 if (decide (a<(t0.length:Int))) then
 (idx t0 a).bind λd=>
 (zft n d).bind λb=>
 grd ((!b)||(cut t0 0 a).isSome) <|
 grd ((!b)||(idx t0 a).isSome) <|
 grd ((!b)||(zcv n ((cut t0 0 a).getD default) ((idx t0 a).getD default)).isSome) <|
 if ((!b)||((zcv n ((cut t0 0 a).getD default) ((idx t0 a).getD default)).getD default)) then
 some false
 else
 c (add64 a 1)
 else
 some true
def zav (n:Nat) (t0:List (List UInt8)):Option Bool:=
 loopF (zav.l1 n t0) n 0
def zaQ.l1 (n:Nat) (t0:List Term) (t1:List Term) (b:Int→Option Bool) (a:Int):Option Bool:=
 if (decide (a<(t0.length:Int))) then
 (idx t0 a).bind λc=>
 (idx t1 a).bind λd=>
 if (!decide ((c:Term)=d)) then
 some false
 else
 b (add64 a 1)
 else
 some true
def zaQ (n:Nat) (t0:List Term) (t1:List Term):Option Bool:=
 if ((t0.length:Int) != (t1.length:Int)) then
 some false
 else
 loopF (zaQ.l1 n t0 t1) n 0
def zct (n:Nat) (t0:Row) (t1:Row):Option Bool:=
 grd (!(t0.bound==t1.bound)||(zaQ n t0.terms t1.terms).isSome) <|
 some ((t0.bound==t1.bound)&&((zaQ n t0.terms t1.terms).getD default))
def zao (n:Nat) (t0:Int) (t1:Int):Option Bool:=
 some ((decide (neg64 t1≤t0))&&(decide (t0≤t1)))
def zce.l1 (n:Nat) (t0:Row) (t1:Int) (c:Int→Option Bool) (b:Int):Option Bool:=
 if (decide (b<(t0.terms.length:Int))) then
 (idx t0.terms b).bind λa=>
 grd (((decide (a.cell<0))||(decide (t1≤a.cell)))||(!(decide (0<b))||(idx t0.terms (sub64 b 1)).isSome)) <|
 grd (((((decide (a.cell<0))||(decide (t1≤a.cell)))||((decide (0<b))&&(decide (a.cell≤((idx t0.terms (sub64 b 1)).getD default).cell))))||(a.factor==0))||(zao n a.factor 1000).isSome) <|
 if (((((decide (a.cell<0))||(decide (t1≤a.cell)))||((decide (0<b))&&(decide (a.cell≤((idx t0.terms (sub64 b 1)).getD default).cell))))||(a.factor==0))||(!((zao n a.factor 1000).getD default))) then
 some false
 else
 c (add64 b 1)
 else
 (zao n t0.bound 1000000000).bind λd=>
 some d
def zce (n:Nat) (t0:Row) (t1:Int):Option Bool:=
 loopF (zce.l1 n t0 t1) n 0
def zbC.l1 (n:Nat) (t0:Model) (t1:Constraint) (c:Int→Option Bool) (b:Int):Option Bool:=
 if (decide (b<(t0.tables.length:Int))) then
 (idx t0.tables b).bind λa=>
 grd (!((a.kind==0)&&((a.columns.length:Int)==2))||(idx a.columns 0).isSome) <|
 grd (!((a.kind==0)&&((a.columns.length:Int)==2))||(idx a.columns 1).isSome) <|
 grd (!((((a.kind==0)&&((a.columns.length:Int)==2))&&(((idx a.columns 0).getD default)==((idx a.columns 1).getD default)))&&(a.first==t1.first))||(idx a.columns 0).isSome) <|
 grd (!((((a.kind==0)&&((a.columns.length:Int)==2))&&(((idx a.columns 0).getD default)==((idx a.columns 1).getD default)))&&(a.first==t1.first))||(idx t0.sorts ((idx a.columns 0).getD default)).isSome) <|
 if (((((a.kind==0)&&((a.columns.length:Int)==2))&&(((idx a.columns 0).getD default)==((idx a.columns 1).getD default)))&&(a.first==t1.first))&&(((idx t0.sorts ((idx a.columns 0).getD default)).getD default)==t1.size)) then
 some true
 else
 c (add64 b 1)
 else
 some false
def zbC (n:Nat) (t0:Model) (t1:Constraint):Option Bool:=
 if ((decide (0<(t1.row.terms.length:Int)))||(t1.row.bound != 0)) then
 some false
 else
 loopF (zbC.l1 n t0 t1) n 0
def zZ.l2 (n:Nat) (t0:Model) (b:List Range) (d:Int→Option Bool) (c:Int):Option Bool:=
 if (decide (c<(t0.constraints.length:Int))) then
 (idx t0.constraints c).bind λa=>
 if ((decide (a.family<0))||(decide ((t0.families.length:Int)≤a.family))) then
 some false
 else
 grd (!(((a.kind==0)&&(a.first==0))&&(a.size==0))||(zce n a.row (b.length:Int)).isSome) <|
 grd (!(!((((a.kind==0)&&(a.first==0))&&(a.size==0))&&((zce n a.row (b.length:Int)).getD default)))||(!((decide (mul64 2 (b.length:Int)≤c))&&(a.kind==1))||(zbC n t0 a).isSome)) <|
 if ((!((((a.kind==0)&&(a.first==0))&&(a.size==0))&&((zce n a.row (b.length:Int)).getD default)))&&(!(((decide (mul64 2 (b.length:Int)≤c))&&(a.kind==1))&&((zbC n t0 a).getD default)))) then
 some false
 else
 d (add64 c 1)
 else
 some true
def zZ.l1 (n:Nat) (t0:Model) (b:List Range) (e:Int→Option Bool) (a:Int):Option Bool:=
 if (decide (a<(b.length:Int))) then
 (idx b a).bind λf=>
 (idx b a).bind λd=>
 (idx t0.constraints (mul64 2 a)).bind λg=>
 (zct n g.row (⟨[(⟨a,(-1)⟩:Term)],neg64 f.lo⟩:Row)).bind λc=>
 grd ((!c)||(idx t0.constraints (add64 (mul64 2 a) 1)).isSome) <|
 grd ((!c)||(zct n (((idx t0.constraints (add64 (mul64 2 a) 1)).getD default).row) (⟨[(⟨a,1⟩:Term)],d.hi⟩:Row)).isSome) <|
 if ((!c)||(!((zct n (((idx t0.constraints (add64 (mul64 2 a) 1)).getD default).row) (⟨[(⟨a,1⟩:Term)],d.hi⟩:Row)).getD default))) then
 some false
 else
 e (add64 a 1)
 else
 loopF (zZ.l2 n t0 b) n 0
def zZ (n:Nat) (t0:Model):Option Bool:=
 (zcm n t0).bind λa=>
 if ((decide ((t0.constraints.length:Int)<mul64 2 (a.length:Int)))||(decide (512<(t0.constraints.length:Int)))) then
 some false
 else
 loopF (zZ.l1 n t0 a) n 0
def zbV.l1 (n:Nat) (t0:List Int) (t1:List Int) (b:Int→Option Bool) (a:Int):Option Bool:=
 if ((decide (a<(t0.length:Int)))&&(decide (a<(t1.length:Int)))) then
 (idx t0 a).bind λc=>
 (idx t1 a).bind λd=>
 if (c != d) then
 (idx t0 a).bind λe=>
 (idx t1 a).bind λf=>
 some (decide (e<f))
 else
 b (add64 a 1)
 else
 some (decide ((t0.length:Int)<(t1.length:Int)))
def zbV (n:Nat) (t0:List Int) (t1:List Int):Option Bool:=
 loopF (zbV.l1 n t0 t1) n 0
def zdC.l1 (n:Nat) (t0:List Int) (t1:List Int) (c:((List Int)×Int×Int)→Option (List Int)) (s:(List Int)×Int×Int):Option (List Int):=
 let a:=s.2.2
 if (decide (0≤a)) then
 (idx t1 a).bind λd=>
 (idx t0 d).bind λe=>
 (rem64 s.2.1 e).bind λf=>
 (idx s.1 a).bind λj=>
 (sto s.1 a f).bind λb=>
 (idx t1 a).bind λg=>
 (idx t0 g).bind λh=>
 (quo64 s.2.1 h).bind λi=>
 c (b,i,sub64 a 1)
 else
 some s.1
def zdC (n:Nat) (t0:List Int) (t1:List Int) (t2:Int):Option (List Int):=
 (mkl 8 (t1.length:Int) (0:Int)).bind λa=>
 loopF (zdC.l1 n t0 t1) n (a,t2,sub64 (t1.length:Int) 1)
def zcs.l1 (n:Nat) (t0:List Int) (t1:List Table) (t2:Bool) (t3:Int) (d:Int→Option (Int×(List Int)×Bool)) (a:Int):Option (Int×(List Int)×Bool):=
 if (decide (a<(t1.length:Int))) then
 (idx t1 a).bind λb=>
 (idx t1 a).bind λe=>
 (zb0 n e.kind).bind λc=>
 grd (!(((c==t2)&&(decide (0≤t3)))&&(decide (0≤sub64 t3 b.first)))||(idx t1 a).isSome) <|
 grd (!(((c==t2)&&(decide (0≤t3)))&&(decide (0≤sub64 t3 b.first)))||(zak n t0 (((idx t1 a).getD default).columns)).isSome) <|
 if ((((c==t2)&&(decide (0≤t3)))&&(decide (0≤sub64 t3 b.first)))&&(decide (sub64 t3 b.first<((zak n t0 (((idx t1 a).getD default).columns)).getD default)))) then
 (idx t1 a).bind λf=>
 (zdC n t0 f.columns (sub64 t3 b.first)).bind λg=>
 some (a,g,true)
 else
 d (add64 a 1)
 else
 some (0,[],false)
def zcs (n:Nat) (t0:List Int) (t1:List Table) (t2:Bool) (t3:Int):Option (Int×(List Int)×Bool):=
 (zaF n t0 t1).bind λa=>
 if (!a) then
 some (0,[],false)
 else
 loopF (zcs.l1 n t0 t1 t2 t3) n 0
def zhN (n:Nat) (t0:Int):Option Bool:=
 some ((t0==2)||(t0==3))
def zaa.l3 (n:Nat) (t0:Model) (t1:Effect) (e:Int→Option Bool) (b:Int):Option Bool:=
 if (decide (b<(t1.updates.length:Int))) then
 (idx t1.updates b).bind λa=>
 (zcs n t0.sorts t0.tables false a.cell).bind λd=>
 grd ((!d.2.2)||(!(decide (0<b))||(idx t1.updates (sub64 b 1)).isSome)) <|
 if ((!d.2.2)||((decide (0<b))&&(decide (a.cell≤((idx t1.updates (sub64 b 1)).getD default).cell)))) then
 some false
 else
 (idx t0.tables d.1).bind λc=>
 (zhN n c.kind).bind λf=>
 if (f&&(((a.kind != 0)&&(a.kind != 1))||(a.value != 0))) then
 some false
 else
 (zhN n c.kind).bind λg=>
 if ((!g)&&(((a.kind != 2)||(decide (a.value<c.range.lo)))||(decide (c.range.hi<a.value)))) then
 some false
 else
 e (add64 b 1)
 else
 some ((decide ((t1.hold.length:Int)≤8))&&(decide ((t1.updates.length:Int)≤32)))
def zaa.l2 (n:Nat) (t0:Model) (t1:Effect) (c:List Range) (b:Int→Option Bool) (a:Int):Option Bool:=
 if (decide (a<(t1.hold.length:Int))) then
 (idx t1.hold a).bind λd=>
 (zce n d (c.length:Int)).bind λe=>
 if (!e) then
 some false
 else
 b (add64 a 1)
 else
 loopF (zaa.l3 n t0 t1) n 0
def zaa.l1 (n:Nat) (t0:Model) (t1:Effect) (c:List Range) (d:Int→Option Bool) (b:Int):Option Bool:=
 if (decide (b<(t1.delta.length:Int))) then
 (idx t1.delta b).bind λa=>
 grd (((decide (a.cell<0))||(decide ((c.length:Int)≤a.cell)))||(!(decide (0<b))||(idx t1.delta (sub64 b 1)).isSome)) <|
 grd (((((decide (a.cell<0))||(decide ((c.length:Int)≤a.cell)))||((decide (0<b))&&(decide (a.cell≤((idx t1.delta (sub64 b 1)).getD default).cell))))||(a.add==0))||(zao n a.add 1000000000).isSome) <|
 if (((((decide (a.cell<0))||(decide ((c.length:Int)≤a.cell)))||((decide (0<b))&&(decide (a.cell≤((idx t1.delta (sub64 b 1)).getD default).cell))))||(a.add==0))||(!((zao n a.add 1000000000).getD default))) then
 some false
 else
 d (add64 b 1)
 else
 loopF (zaa.l2 n t0 t1 c) n 0
def zaa (n:Nat) (t0:Model) (t1:Effect):Option Bool:=
 (zcm n t0).bind λa=>
 loopF (zaa.l1 n t0 t1 a) n 0
def zA.l4 (n:Nat) (t0:Model) (e:Int) (g:Int→Option Bool) (a:Action) (h:Int→Option Bool) (b:Int):Option Bool:=
 if (decide (b<(a.arguments.length:Int))) then
 (idx t0.operations a.operation).bind λi=>
 (idx i.sorts b).bind λc=>
 grd (!(decide (c<0))||(idx a.arguments b).isSome) <|
 grd (!(decide (c<0))||(zao n ((idx a.arguments b).getD default) 9999).isSome) <|
 grd (((decide (c<0))&&(!((zao n ((idx a.arguments b).getD default) 9999).getD default)))||(!(decide (0≤c))||(idx a.arguments b).isSome)) <|
 grd (((decide (c<0))&&(!((zao n ((idx a.arguments b).getD default) 9999).getD default)))||(!(decide (0≤c))||((decide (((idx a.arguments b).getD default)<0))||(idx a.arguments b).isSome))) <|
 grd (((decide (c<0))&&(!((zao n ((idx a.arguments b).getD default) 9999).getD default)))||(!(decide (0≤c))||((decide (((idx a.arguments b).getD default)<0))||(idx t0.sorts c).isSome))) <|
 if (((decide (c<0))&&(!((zao n ((idx a.arguments b).getD default) 9999).getD default)))||((decide (0≤c))&&((decide (((idx a.arguments b).getD default)<0))||(decide (((idx t0.sorts c).getD default)≤((idx a.arguments b).getD default)))))) then
 some false
 else
 h (add64 b 1)
 else
 jn (λ(k:Unit)=>
 (zaa n t0 a.effect).bind λj=>
 if (!j) then
 some false
 else
 g (add64 e 1)) λf=>
 if (decide (0<e)) then
 (idx t0.actions (sub64 e 1)).bind λd=>
 grd ((decide (a.operation<d.operation))||(!(d.operation==a.operation)||(zbV n d.arguments a.arguments).isSome)) <|
 if ((decide (a.operation<d.operation))||((d.operation==a.operation)&&(!((zbV n d.arguments a.arguments).getD default)))) then
 some false
 else
 f ()
 else
 f ()
def zA.l3 (n:Nat) (t0:Model) (c:Int→Option Bool) (b:Int):Option Bool:=
 if (decide (b<(t0.actions.length:Int))) then
 (idx t0.actions b).bind λa=>
 grd (((decide (a.operation<0))||(decide ((t0.operations.length:Int)≤a.operation)))||(idx t0.operations a.operation).isSome) <|
 if (((decide (a.operation<0))||(decide ((t0.operations.length:Int)≤a.operation)))||((a.arguments.length:Int) != ((((idx t0.operations a.operation).getD default).sorts).length:Int))) then
 some false
 else
 loopF (zA.l4 n t0 b c a) n 0
 else
 some true
def zA.l2 (n:Nat) (t0:Model) (g:Int) (d:((List (List UInt8))×Int)→Option Bool) (a:Operation) (f:List (List UInt8)) (e:Int→Option Bool) (b:Int):Option Bool:=
 if (decide (b<(a.sorts.length:Int))) then
 (idx a.sorts b).bind λc=>
 grd ((decide (c<(-1)))||(idx a.sorts b).isSome) <|
 if ((decide (c<(-1)))||(decide ((t0.sorts.length:Int)≤((idx a.sorts b).getD default)))) then
 some false
 else
 e (add64 b 1)
 else
 if (decide (3<(a.sorts.length:Int))) then
 some false
 else
 d (f,add64 g 1)
def zA.l1 (n:Nat) (t0:Model) (b:((List (List UInt8))×Int)→Option Bool) (s:(List (List UInt8))×Int):Option Bool:=
 if (decide (s.2<(t0.operations.length:Int))) then
 (idx t0.operations s.2).bind λa=>
 (app 16 s.1 [a.name]).bind λc=>
 loopF (zA.l2 n t0 s.2 b a c) n 0
 else
 grd ((decide (8<(t0.operations.length:Int)))||(zav n s.1).isSome) <|
 if (((decide (8<(t0.operations.length:Int)))||(!((zav n s.1).getD default)))||(decide (256<(t0.actions.length:Int)))) then
 some false
 else
 loopF (zA.l3 n t0) n 0
def zA (n:Nat) (t0:Model):Option Bool:=
 loopF (zA.l1 n t0) n (([]:List (List UInt8)),0)
def zaz.l1 (n:Nat) (self:Model→Int→Int→Int→Option Bool) (t0:Model) (t1:Int) (t2:Int) (t3:Int) (c:Int→Option Bool) (a:Int):Option Bool:=
 if ((decide (a<(t0.hides.length:Int)))&&(decide (0<t3))) then
 (idx t0.hides a).bind λb=>
 grd (!(b.table==t1)||(idx t0.hides a).isSome) <|
 grd (!(b.table==t1)||(self t0 (((idx t0.hides a).getD default).to) t2 (sub64 t3 1)).isSome) <|
 if ((b.table==t1)&&((self t0 (((idx t0.hides a).getD default).to) t2 (sub64 t3 1)).getD default)) then
 some true
 else
 c (add64 a 1)
 else
 some false
def zaz.body (n:Nat) (self:Model→Int→Int→Int→Option Bool) (t0:Model) (t1:Int) (t2:Int) (t3:Int):Option Bool:=
 if (t1==t2) then
 some true
 else
 loopF (zaz.l1 n self t0 t1 t2 t3) n 0
def zaz:Nat→Model→Int→Int→Int→Option Bool
 | 0,_,_,_,_=>none
 | n+1,t0,t1,t2,t3=>zaz.body n (zaz n) t0 t1 t2 t3
def zax.l2 (n:Nat) (t0:Model) (b:Int→Option Bool) (a:Int):Option Bool:=
 if (decide (a<(t0.hides.length:Int))) then
 (idx t0.hides a).bind λc=>
 (idx t0.hides a).bind λd=>
 (zaz n t0 c.to d.table (t0.tables.length:Int)).bind λe=>
 if e then
 some false
 else
 b (add64 a 1)
 else
 some true
def zax.l1 (n:Nat) (t0:Model) (e:Int→Option Bool) (d:Int):Option Bool:=
 if (decide (d<(t0.hides.length:Int))) then
 (idx t0.hides d).bind λa=>
 if (((((decide (a.table<0))||(decide ((t0.tables.length:Int)≤a.table)))||(decide (a.to<0)))||(decide ((t0.tables.length:Int)≤a.to)))||(a.table==a.to)) then
 some false
 else
 (idx t0.tables a.table).bind λb=>
 (idx t0.tables a.to).bind λc=>
 grd ((((((b.kind != 0)||(c.kind != 0))||(decide (a.column<0)))||(decide ((b.columns.length:Int)≤a.column)))||((c.columns.length:Int) != 1))||(idx c.columns 0).isSome) <|
 grd ((((((b.kind != 0)||(c.kind != 0))||(decide (a.column<0)))||(decide ((b.columns.length:Int)≤a.column)))||((c.columns.length:Int) != 1))||(idx b.columns a.column).isSome) <|
 if ((((((b.kind != 0)||(c.kind != 0))||(decide (a.column<0)))||(decide ((b.columns.length:Int)≤a.column)))||((c.columns.length:Int) != 1))||(((idx c.columns 0).getD default) != ((idx b.columns a.column).getD default))) then
 some false
 else
 e (add64 d 1)
 else
 loopF (zax.l2 n t0) n 0
def zax (n:Nat) (t0:Model):Option Bool:=
 if (decide (12<(t0.hides.length:Int))) then
 some false
 else
 loopF (zax.l1 n t0) n 0
def zdJ (n:Nat) (t0:Model):Option Bool:=
 (zaF n t0.sorts t0.tables).bind λb=>
 grd (((!b)||(decide (24<(t0.families.length:Int))))||(zav n t0.families).isSome) <|
 if (((!b)||(decide (24<(t0.families.length:Int))))||(!((zav n t0.families).getD default))) then
 some false
 else
 (zZ n t0).bind λa=>
 grd (!a||(zA n t0).isSome) <|
 grd (!(a&&((zA n t0).getD default))||(zax n t0).isSome) <|
 some ((a&&((zA n t0).getD default))&&((zax n t0).getD default))
def zfQ (n:Nat) (t0:Model) (t1:Question):Option Bool:=
 (zdJ n t0).bind λb=>
 if ((((((!b)||(decide (t1.e<0)))||(decide (t1.f<0)))||(decide ((t0.actions.length:Int)≤t1.e)))||(decide ((t0.actions.length:Int)≤t1.f)))||(decide (t1.target.index<0))) then
 some false
 else
 if t1.target.hold then
 (idx t0.actions t1.e).bind λa=>
 some (decide (t1.target.index<(a.effect.hold.length:Int)))
 else
 some ((decide (t1.e≤t1.f))&&(decide (t1.target.index<(t0.constraints.length:Int))))
def zcS (n:Nat) (t0:Swap) (t1:Int):Option Int:=
 if (t1==t0.a) then
 some t0.b
 else
 if (t1==t0.b) then
 some t0.a
 else
 some t1
def zgy (n:Nat) (t0:Int):Option Bool:=
 some ((t0==0)||(t0==1))
def zbN.l1 (n:Nat) (t0:Model) (t1:Table) (a:(Int×Int)→Option Int) (s:Int×Int):Option Int:=
 if (decide (s.2<(t1.columns.length:Int))) then
 (idx t1.columns s.2).bind λb=>
 (idx t0.sorts b).bind λc=>
 a (mul64 s.1 c,add64 s.2 1)
 else
 some s.1
def zbN (n:Nat) (t0:Model) (t1:Table):Option Int:=
 loopF (zbN.l1 n t0 t1) n (1,0)
def zaT.l2 (n:Nat) (t0:Model) (t1:Swap) (b:Table) (f:(Int×Int×Int×Int)→Option Int) (s:Int×Int×Int×Int):Option Int:=
 let a:=s.2.2.2
 if (decide (0≤a)) then
 (idx b.columns a).bind λh=>
 (idx t0.sorts h).bind λc=>
 (rem64 s.1 c).bind λe=>
 jn (λ(g:Int)=>
 (quo64 s.1 c).bind λk=>
 f (k,add64 s.2.1 (mul64 g s.2.2.1),mul64 s.2.2.1 c,sub64 a 1)) λd=>
 (idx b.columns a).bind λi=>
 if (i==t1.sort) then
 (zcS n t1 e).bind λj=>
 d j
 else
 d e
 else
 some (add64 b.first s.2.1)
def zaT.l1 (n:Nat) (t0:Model) (t1:Swap) (t2:Int) (t3:Bool) (d:Int→Option Int) (b:Int):Option Int:=
 if (decide (b<(t0.tables.length:Int))) then
 (idx t0.tables b).bind λa=>
 (zgy n a.kind).bind λc=>
 grd (((c != t3)||(decide (sub64 t2 a.first<0)))||(zbN n t0 a).isSome) <|
 if (((c != t3)||(decide (sub64 t2 a.first<0)))||(decide (((zbN n t0 a).getD default)≤sub64 t2 a.first))) then
 d (add64 b 1)
 else
 loopF (zaT.l2 n t0 t1 a) n (sub64 t2 a.first,0,1,sub64 (a.columns.length:Int) 1)
 else
 some (-1)
def zaT (n:Nat) (t0:Model) (t1:Swap) (t2:Int) (t3:Bool):Option Int:=
 loopF (zaT.l1 n t0 t1 t2 t3) n 0
def zbD.l2 (n:Nat) (b:List Term) (p:Int) (j:((List Term)×Int)→Option Row) (c:Int) (g:Term) (i:((List Term)×Bool×Int)→Option Row) (s:(List Term)×Bool×Int):Option Row:=
 let a:=s.2.2
 if (decide (a<(b.length:Int))) then
 jn (λ(d:(List Term)×Bool)=>
 (idx b a).bind λl=>
 (app 16 d.1 [l]).bind λm=>
 i (m,d.2,add64 a 1)) λe=>
 grd (!(!s.2.1)||(idx b a).isSome) <|
 if ((!s.2.1)&&(decide (c<((idx b a).getD default).cell))) then
 (app 16 s.1 [(⟨c,g.factor⟩:Term)]).bind λk=>
 e (k,true)
 else
 e (s.1,s.2.1)
 else
 jn (λ(h:(List Term))=>
 j (h,add64 p 1)) λf=>
 if (!s.2.1) then
 (app 16 s.1 [(⟨c,g.factor⟩:Term)]).bind λo=>
 f o
 else
 f s.1
def zbD.l1 (n:Nat) (t0:Model) (t1:Swap) (t2:Row) (a:((List Term)×Int)→Option Row) (s:(List Term)×Int):Option Row:=
 if (decide (s.2<(t2.terms.length:Int))) then
 (idx t2.terms s.2).bind λb=>
 (zaT n t0 t1 b.cell true).bind λc=>
 (idx t2.terms s.2).bind λd=>
 loopF (zbD.l2 n s.1 s.2 a c d) n (([]:List Term),false,0)
 else
 some (⟨s.1,t2.bound⟩:Row)
def zbD (n:Nat) (t0:Model) (t1:Swap) (t2:Row):Option Row:=
 loopF (zbD.l1 n t0 t1 t2) n ([],0)
def zaj.l1 (n:Nat) (t0:Row) (t1:Row) (b:Int→Option Bool) (a:Int):Option Bool:=
 if (decide (a<(t0.terms.length:Int))) then
 (idx t0.terms a).bind λc=>
 (idx t1.terms a).bind λd=>
 if (!decide ((c:Term)=d)) then
 some false
 else
 b (add64 a 1)
 else
 some true
def zaj (n:Nat) (t0:Row) (t1:Row):Option Bool:=
 if ((t0.bound != t1.bound)||((t0.terms.length:Int) != (t1.terms.length:Int))) then
 some false
 else
 loopF (zaj.l1 n t0 t1) n 0
def zaV.l1 (n:Nat) (t0:List Row) (t1:Int) (t2:Row) (b:(Int×Int)→Option Int) (s:Int×Int):Option Int:=
 if (decide (s.2<t1)) then
 jn (λ(e:Int)=>
 b (e,add64 s.2 1)) λa=>
 (idx t0 s.2).bind λc=>
 (zaj n c t2).bind λd=>
 if d then
 a (add64 s.1 1)
 else
 a s.1
 else
 some s.1
def zaV (n:Nat) (t0:List Row) (t1:Int) (t2:Row):Option Int:=
 loopF (zaV.l1 n t0 t1 t2) n (0,0)
def zbs.l1 (n:Nat) (t0:List Update) (t1:Update) (b:(Int×Int)→Option Int) (s:Int×Int):Option Int:=
 if (decide (s.2<(t0.length:Int))) then
 jn (λ(d:Int)=>
 b (d,add64 s.2 1)) λa=>
 (idx t0 s.2).bind λc=>
 if (decide ((c:Update)=t1)) then
 a (add64 s.1 1)
 else
 a s.1
 else
 some s.1
def zbs (n:Nat) (t0:List Update) (t1:Update):Option Int:=
 loopF (zbs.l1 n t0 t1) n (0,0)
def zV.l4 (n:Nat) (t0:Model) (t1:Swap) (t2:Effect) (t3:Effect) (c:Int→Option Bool) (a:Int):Option Bool:=
 if (decide (a<(t2.updates.length:Int))) then
 (idx t2.updates a).bind λb=>
 (zaT n t0 t1 b.cell false).bind λd=>
 (idx t2.updates a).bind λe=>
 (zbs n t2.updates e).bind λf=>
 (zbs n t3.updates (⟨b.kind,d,b.value⟩:Update)).bind λg=>
 if (f != g) then
 some false
 else
 c (add64 a 1)
 else
 some true
def zV.l3 (n:Nat) (t0:Model) (t1:Swap) (t2:Effect) (t3:Effect) (b:Int→Option Bool) (a:Int):Option Bool:=
 if (decide (a<(t2.hold.length:Int))) then
 (idx t2.hold a).bind λc=>
 (zbD n t0 t1 c).bind λd=>
 (idx t2.hold a).bind λe=>
 (zaV n t2.hold (t2.hold.length:Int) e).bind λf=>
 (zaV n t3.hold (t3.hold.length:Int) d).bind λg=>
 if (f != g) then
 some false
 else
 b (add64 a 1)
 else
 loopF (zV.l4 n t0 t1 t2 t3) n 0
def zV.l2 (n:Nat) (t0:Model) (t1:Swap) (t2:Effect) (t3:Effect) (a:Int) (e:Int→Option Bool) (f:(Bool×Int)→Option Bool) (s:Bool×Int):Option Bool:=
 if (decide (s.2<(t3.delta.length:Int))) then
 jn (λ(g:Bool)=>
 f (g,add64 s.2 1)) λd=>
 (idx t3.delta s.2).bind λb=>
 (idx t2.delta a).bind λh=>
 (zaT n t0 t1 h.cell true).bind λc=>
 grd (!(b.cell==c)||(idx t3.delta s.2).isSome) <|
 grd (!(b.cell==c)||(idx t2.delta a).isSome) <|
 if ((b.cell==c)&&((((idx t3.delta s.2).getD default).add)==(((idx t2.delta a).getD default).add))) then
 d true
 else
 d s.1
 else
 if (!s.1) then
 some false
 else
 e (add64 a 1)
def zV.l1 (n:Nat) (t0:Model) (t1:Swap) (t2:Effect) (t3:Effect) (b:Int→Option Bool) (a:Int):Option Bool:=
 if (decide (a<(t2.delta.length:Int))) then
 loopF (zV.l2 n t0 t1 t2 t3 a b) n (false,0)
 else
 loopF (zV.l3 n t0 t1 t2 t3) n 0
def zV (n:Nat) (t0:Model) (t1:Swap) (t2:Effect) (t3:Effect):Option Bool:=
 if ((((t2.delta.length:Int) != (t3.delta.length:Int))||((t2.hold.length:Int) != (t3.hold.length:Int)))||((t2.updates.length:Int) != (t3.updates.length:Int))) then
 some false
 else
 loopF (zV.l1 n t0 t1 t2 t3) n 0
def zP.l2 (n:Nat) (t0:Model) (t1:Swap) (a:Action) (i:Operation) (d:Int) (f:Int→Option (Int×Bool)) (b:Action) (g:(Bool×Int)→Option (Int×Bool)) (s:Bool×Int):Option (Int×Bool):=
 if (s.1&&(decide (s.2<(a.arguments.length:Int)))) then
 (idx a.arguments s.2).bind λe=>
 jn (λ(h:Int)=>
 (idx b.arguments s.2).bind λl=>
 g (l==h,add64 s.2 1)) λc=>
 (idx i.sorts s.2).bind λj=>
 if (j==t1.sort) then
 (zcS n t1 e).bind λk=>
 c k
 else
 c e
 else
 grd (!s.1||(zV n t0 t1 a.effect b.effect).isSome) <|
 if (s.1&&((zV n t0 t1 a.effect b.effect).getD default)) then
 some (d,true)
 else
 f (add64 d 1)
def zP.l1 (n:Nat) (t0:Model) (t1:Swap) (b:Action) (e:Operation) (d:Int→Option (Int×Bool)) (a:Int):Option (Int×Bool):=
 if (decide (a<(t0.actions.length:Int))) then
 (idx t0.actions a).bind λc=>
 loopF (zP.l2 n t0 t1 b e a d c) n ((c.operation==b.operation)&&((c.arguments.length:Int)==(b.arguments.length:Int)),0)
 else
 some (0,false)
def zP (n:Nat) (t0:Model) (t1:Swap) (t2:Int):Option (Int×Bool):=
 (idx t0.actions t2).bind λa=>
 (idx t0.operations a.operation).bind λb=>
 loopF (zP.l1 n t0 t1 a b) n 0
def zby.l1 (n:Nat) (t0:Model) (t1:Int) (a:Constraint) (d:(Int×Int)→Option Int) (s:Int×Int):Option Int:=
 if (decide (s.2<t1)) then
 jn (λ(e:Int)=>
 d (e,add64 s.2 1)) λc=>
 (idx t0.constraints s.2).bind λb=>
 grd (!((b.kind==a.kind)&&(b.family==a.family))||(zaj n b.row a.row).isSome) <|
 if (((b.kind==a.kind)&&(b.family==a.family))&&((zaj n b.row a.row).getD default)) then
 c (add64 s.1 1)
 else
 c s.1
 else
 some s.1
def zby (n:Nat) (t0:Model) (t1:Int):Option Int:=
 (idx t0.constraints t1).bind λa=>
 loopF (zby.l1 n t0 t1 a) n (0,0)
def zab.l1 (n:Nat) (t0:Model) (t2:Int) (b:Constraint) (d:Row) (e:Int→Option (Int×Bool)) (c:Int):Option (Int×Bool):=
 if (decide (c<(t0.constraints.length:Int))) then
 (idx t0.constraints c).bind λa=>
 grd (!((a.kind==b.kind)&&(a.family==b.family))||(zaj n a.row d).isSome) <|
 grd (!(((a.kind==b.kind)&&(a.family==b.family))&&((zaj n a.row d).getD default))||(zby n t0 c).isSome) <|
 grd (!(((a.kind==b.kind)&&(a.family==b.family))&&((zaj n a.row d).getD default))||(zby n t0 t2).isSome) <|
 if ((((a.kind==b.kind)&&(a.family==b.family))&&((zaj n a.row d).getD default))&&(((zby n t0 c).getD default)==((zby n t0 t2).getD default))) then
 some (c,true)
 else
 e (add64 c 1)
 else
 some (0,false)
def zab (n:Nat) (t0:Model) (t1:Swap) (t2:Int):Option (Int×Bool):=
 (idx t0.constraints t2).bind λa=>
 if (a.kind==1) then
 some (t2,true)
 else
 (zbD n t0 t1 a.row).bind λb=>
 loopF (zab.l1 n t0 t2 a b) n 0
def zW.l2 (n:Nat) (t0:Model) (t1:Swap) (b:Int→Option Bool) (a:Int):Option Bool:=
 if (decide (a<(t0.constraints.length:Int))) then
 (zab n t0 t1 a).bind λc=>
 if (!c.2) then
 some false
 else
 b (add64 a 1)
 else
 some true
def zW.l1 (n:Nat) (t0:Model) (t1:Swap) (b:Int→Option Bool) (a:Int):Option Bool:=
 if (decide (a<(t0.actions.length:Int))) then
 (zP n t0 t1 a).bind λc=>
 if (!c.2) then
 some false
 else
 b (add64 a 1)
 else
 loopF (zW.l2 n t0 t1) n 0
def zW (n:Nat) (t0:Model) (t1:Swap):Option Bool:=
 loopF (zW.l1 n t0 t1) n 0
def zN.l3 (n:Nat) (t0:Model) (a:Int) (b:Int) (e:((List Swap)×Int)→Option (List Swap)) (f:((List Swap)×Int)→Option (List Swap)) (s:(List Swap)×Int):Option (List Swap):=
 (idx t0.sorts a).bind λg=>
 if (decide (s.2<g)) then
 jn (λ(d:(List Swap))=>
 f (d,add64 s.2 1)) λc=>
 (zW n t0 (⟨a,b,s.2⟩:Swap)).bind λh=>
 if h then
 (app 24 s.1 [(⟨a,b,s.2⟩:Swap)]).bind λi=>
 c i
 else
 c s.1
 else
 e (s.1,add64 b 1)
def zN.l2 (n:Nat) (t0:Model) (a:Int) (b:((List Swap)×Int)→Option (List Swap)) (c:((List Swap)×Int)→Option (List Swap)) (s:(List Swap)×Int):Option (List Swap):=
 (idx t0.sorts a).bind λd=>
 if (decide (s.2<d)) then
 loopF (zN.l3 n t0 a s.2 c) n (s.1,add64 s.2 1)
 else
 b (s.1,add64 a 1)
def zN.l1 (n:Nat) (t0:Model) (a:((List Swap)×Int)→Option (List Swap)) (s:(List Swap)×Int):Option (List Swap):=
 if (decide (s.2<(t0.sorts.length:Int))) then
 loopF (zN.l2 n t0 s.2 a) n (s.1,0)
 else
 some s.1
def zN (n:Nat) (t0:Model):Option (List Swap):=
 (zdJ n t0).bind λa=>
 if (!a) then
 some ([]:List Swap)
 else
 loopF (zN.l1 n t0) n (([]:List Swap),0)
def zcR.l1 (n:Nat) (t2:Question) (g:Int×Bool) (h:Int×Bool) (b:Action) (d:Action) (e:Row) (f:Int→Option (Question×Bool)) (a:Int):Option (Question×Bool):=
 if (decide (a<(d.effect.hold.length:Int))) then
 (idx d.effect.hold a).bind λi=>
 (zaj n i e).bind λc=>
 grd (!c||(zaV n d.effect.hold a e).isSome) <|
 grd (!c||(idx b.effect.hold t2.target.index).isSome) <|
 grd (!c||(zaV n b.effect.hold t2.target.index ((idx b.effect.hold t2.target.index).getD default)).isSome) <|
 if (c&&(((zaV n d.effect.hold a e).getD default)==((zaV n b.effect.hold t2.target.index ((idx b.effect.hold t2.target.index).getD default)).getD default))) then
 some ((⟨g.1,h.1,(⟨true,a⟩:Target)⟩:Question),true)
 else
 f (add64 a 1)
 else
 some ((⟨0,0,(⟨false,0⟩:Target)⟩:Question),false)
def zcR (n:Nat) (t0:Model) (t1:Swap) (t2:Question):Option (Question×Bool):=
 (zP n t0 t1 t2.e).bind λa=>
 (zP n t0 t1 t2.f).bind λb=>
 if ((!a.2)||(!b.2)) then
 some ((⟨0,0,(⟨false,0⟩:Target)⟩:Question),false)
 else
 if (!t2.target.hold) then
 (zab n t0 t1 t2.target.index).bind λc=>
 if (!c.2) then
 some ((⟨0,0,(⟨false,0⟩:Target)⟩:Question),false)
 else
 some ((⟨(gmin a.1 b.1),(gmax a.1 b.1),(⟨false,c.1⟩:Target)⟩:Question),true)
 else
 (idx t0.actions t2.e).bind λd=>
 (idx t0.actions a.1).bind λg=>
 (idx d.effect.hold t2.target.index).bind λh=>
 (zbD n t0 t1 h).bind λi=>
 loopF (zcR.l1 n t2 a b d g i) n 0
def zbO.l1 (n:Nat) (t0:List Way) (t1:Question) (b:Int→Option Bool) (a:Int):Option Bool:=
 if (decide (a<(t0.length:Int))) then
 (idx t0 a).bind λc=>
 if (decide ((c.question:Question)=t1)) then
 some true
 else
 b (add64 a 1)
 else
 some false
def zbO (n:Nat) (t0:List Way) (t1:Question):Option Bool:=
 loopF (zbO.l1 n t0 t1) n 0
def zaS.l3 (n:Nat) (t1:List Swap) (b:Int) (a:List Way) (m:Int) (c:((List Way))→Option (List Way)) (e:Question×Bool) (d:((List Swap)×Int)→Option (List Way)) (s:(List Swap)×Int):Option (List Way):=
 (idx a b).bind λf=>
 if (decide (s.2<(f.swaps.length:Int))) then
 (idx a b).bind λg=>
 (idx g.swaps s.2).bind λh=>
 (app 24 s.1 [h]).bind λi=>
 d (i,add64 s.2 1)
 else
 (idx t1 m).bind λj=>
 (app 24 s.1 [j]).bind λk=>
 (app 56 a [(⟨e.1,k⟩:Way)]).bind λl=>
 c l
def zaS.l2 (n:Nat) (t0:Model) (t1:List Swap) (b:Int) (e:((List Way)×Int)→Option (List Way)) (f:((List Way)×Int)→Option (List Way)) (s:(List Way)×Int):Option (List Way):=
 if (decide (s.2<(t1.length:Int))) then
 jn (λ(d:(List Way))=>
 f (d,add64 s.2 1)) λc=>
 (idx t1 s.2).bind λg=>
 (idx s.1 b).bind λh=>
 (zcR n t0 g h.question).bind λa=>
 grd (!a.2||(zbO n s.1 a.1).isSome) <|
 if (a.2&&(!((zbO n s.1 a.1).getD default))) then
 loopF (zaS.l3 n t1 b s.1 s.2 c a) n (([]:List Swap),0)
 else
 c s.1
 else
 e (s.1,add64 b 1)
def zaS.l1 (n:Nat) (t0:Model) (t1:List Swap) (a:((List Way)×Int)→Option (List Way)) (s:(List Way)×Int):Option (List Way):=
 if (decide (s.2<(s.1.length:Int))) then
 loopF (zaS.l2 n t0 t1 s.2 a) n (s.1,0)
 else
 some s.1
def zaS (n:Nat) (t0:Model) (t1:List Swap) (t2:Question):Option (List Way):=
 loopF (zaS.l1 n t0 t1) n (([(⟨t2,[]⟩:Way)]:List Way),0)
def zat.l2 (n:Nat) (k:List Way) (a:List Question) (l:((List Question))→Option (List Question)) (m:(Int×Int×Bool×Int×Bool×Int)→Option (List Question)) (s:Int×Int×Bool×Int×Bool×Int):Option (List Question):=
 let d:=s.2.2.1
 let g:=s.2.2.2.1
 let h:=s.2.2.2.2.1
 let i:=s.2.2.2.2.2
 if (decide (i<(k.length:Int))) then
 jn (λ(c:Int×Int×Bool×Int×Bool)=>
 m (c.1,c.2.1,c.2.2.1,c.2.2.2.1,c.2.2.2.2,add64 i 1)) λj=>
 (idx k i).bind λb=>
 grd (((a.length:Int)==0)||(idx a (sub64 (a.length:Int) 1)).isSome) <|
 grd (((a.length:Int)==0)||(zcf n ((idx a (sub64 (a.length:Int) 1)).getD default) b.question).isSome) <|
 grd (!(((a.length:Int)==0)||((zcf n ((idx a (sub64 (a.length:Int) 1)).getD default) b.question).getD default))||((!h)||(zcf n b.question (⟨s.1,s.2.1,(⟨d,g⟩:Target)⟩:Question)).isSome)) <|
 if ((((a.length:Int)==0)||((zcf n ((idx a (sub64 (a.length:Int) 1)).getD default) b.question).getD default))&&((!h)||((zcf n b.question (⟨s.1,s.2.1,(⟨d,g⟩:Target)⟩:Question)).getD default))) then
 j (b.question.e,b.question.f,b.question.target.hold,b.question.target.index,true)
 else
 j (s.1,s.2.1,d,g,h)
 else
 (app 32 a [(⟨s.1,s.2.1,(⟨d,g⟩:Target)⟩:Question)]).bind λo=>
 l o
def zat.l1 (n:Nat) (b:List Way) (c:((List Question))→Option (List Question)) (a:(List Question)):Option (List Question):=
 if (decide ((a.length:Int)<(b.length:Int))) then
 loopF (zat.l2 n b a c) n (0,0,false,0,false,0)
 else
 some a
def zat (n:Nat) (t0:Model) (t1:Question):Option (List Question):=
 (zfQ n t0 t1).bind λa=>
 if (!a) then
 some ([]:List Question)
 else
 (zN n t0).bind λb=>
 (zaS n t0 b t1).bind λc=>
 loopF (zat.l1 n c) n ([]:List Question)
def zar.l1 (n:Nat) (t1:Question) (d:List Question) (b:List Way) (c:Int→Option (Question×(List Swap))) (a:Int):Option (Question×(List Swap)):=
 if (decide (a<(b.length:Int))) then
 (idx b a).bind λe=>
 if (decide ((e.question:Question)=t1)) then
 (idx d 0).bind λf=>
 (idx b a).bind λg=>
 some (f,g.swaps)
 else
 c (add64 a 1)
 else
 some ((⟨0,0,(⟨false,0⟩:Target)⟩:Question),[])
def zar (n:Nat) (t0:Model) (t1:Question):Option (Question×(List Swap)):=
 (zat n t0 t1).bind λa=>
 if ((a.length:Int)==0) then
 some ((⟨0,0,(⟨false,0⟩:Target)⟩:Question),[])
 else
 (zN n t0).bind λb=>
 (idx a 0).bind λc=>
 (zaS n t0 b c).bind λd=>
 loopF (zar.l1 n t1 a d) n 0
def zgO (n:Nat) (t0:Model) (t1:Swap):Option Bool:=
 (zdJ n t0).bind λc=>
 grd (!((((c&&(decide (0≤t1.sort)))&&(decide (t1.sort<(t0.sorts.length:Int))))&&(decide (0≤t1.a)))&&(decide (t1.a<t1.b)))||(idx t0.sorts t1.sort).isSome) <|
 some (((((c&&(decide (0≤t1.sort)))&&(decide (t1.sort<(t0.sorts.length:Int))))&&(decide (0≤t1.a)))&&(decide (t1.a<t1.b)))&&(decide (t1.b<((idx t0.sorts t1.sort).getD default))))
def zeD (n:Nat) (t0:Model) (t1:Swap):Option Bool:=
 (zgO n t0 t1).bind λa=>
 grd (!a||(zW n t0 t1).isSome) <|
 some (a&&((zW n t0 t1).getD default))
def zl.l1 (n:Nat) (t0:List Question) (t1:List Question) (b:Int→Option Bool) (a:Int):Option Bool:=
 if (decide (a<(t0.length:Int))) then
 (idx t0 a).bind λc=>
 (idx t1 a).bind λd=>
 if (!decide ((c:Question)=d)) then
 some false
 else
 b (add64 a 1)
 else
 some true
def zl (n:Nat) (t0:List Question) (t1:List Question):Option Bool:=
 if ((t0.length:Int) != (t1.length:Int)) then
 some false
 else
 loopF (zl.l1 n t0 t1) n 0
def zc3 (n:Nat) (t0:Model) (t1:Swap) (t2:Question):Option Bool:=
 (zhh n ).bind λe=>
 if (!e) then
 some false
 else
 (zbM n t0).bind λf=>
 if (!f) then
 some true
 else
 (zba n t0 t2).bind λc=>
 (zar n t0 t2).bind λd=>
 (zb6 n t0 t1).bind λa=>
 (zeD n t0 t1).bind λb=>
 grd (!(a==b)||(zal n t0).isSome) <|
 grd (!(a==b)||(zN n t0).isSome) <|
 grd (!(a==b)||(zb n ((zal n t0).getD default) ((zN n t0).getD default)).isSome) <|
 grd (!((a==b)&&((zb n ((zal n t0).getD default) ((zN n t0).getD default)).getD default))||(zag n t0 t2).isSome) <|
 grd (!((a==b)&&((zb n ((zal n t0).getD default) ((zN n t0).getD default)).getD default))||(zat n t0 t2).isSome) <|
 grd (!((a==b)&&((zb n ((zal n t0).getD default) ((zN n t0).getD default)).getD default))||(zl n ((zag n t0 t2).getD default) ((zat n t0 t2).getD default)).isSome) <|
 grd (!((((a==b)&&((zb n ((zal n t0).getD default) ((zN n t0).getD default)).getD default))&&((zl n ((zag n t0 t2).getD default) ((zat n t0 t2).getD default)).getD default))&&(decide ((c.1:Question)=d.1)))||(zb n c.2 d.2).isSome) <|
 some (((((a==b)&&((zb n ((zal n t0).getD default) ((zN n t0).getD default)).getD default))&&((zl n ((zag n t0 t2).getD default) ((zat n t0 t2).getD default)).getD default))&&(decide ((c.1:Question)=d.1)))&&((zb n c.2 d.2).getD default))
end
theorem zi9 (n r) (h:zeh n=some r):Pure pg 45 [] (Model.enc r):=by
 refine Pure.ot Tryz.func45 I Tryz.ntmps45 I λA w=>.sr<|.allocZ I I I I (.agg Zc30 (ds':=[eA [],eB [],eC [],eD [],eE [],eF [],eG []]) (.o (.o (.o (.o (.o (.o .o1))))))) I<|.nil<|.sr<|.p I (.buildSl [_] I I E22 I (λ_=>I) I (enc:=D.int))<|.p I (.buildSl [_] I I E22 I (λ_=>I) I (enc:=D.int))<|.p I (.castD (Range.enc (⟨0,1⟩:Range)) I (.build I Pl85 (.agg Zc85 (ds':=[_,_]) (.e .e1)) I I))<|.p I (.castD (Table.enc (⟨[114],0,[0],(⟨0,1⟩:Range),0⟩:Table)) I (.build I Pl118 (.agg Zc118 (ds':=[_,_,_,_,_,_]) (.e (.e (.e (.e (.e .e1)))))) I I))<|.p I (.buildSl [_] I I E23 I (λ_=>I) I (enc:=Table.enc))<|.p I (.buildSl [_] I I E24 I (λ_=>I) I (enc:=D.str))<|.p I (.buildSl [_] I I E22 I (λ_=>I) I (enc:=D.int))<|.p I (.castD (Operation.enc (⟨[109,97,114,107],false,[0]⟩:Operation)) I (.build I Pl133 (.agg Zc133 (ds':=[_,_,_]) (.e (.e .e1))) I I))<|.p I (.buildSl [_] I I E26 I (λ_=>I) I (enc:=Operation.enc))<|.p I (.build I Pl30 (.agg Zc30 (ds':=[_,_,_,.val (.slice none 0 0),_,.val (.slice none 0 0),eG []]) (.e (.e (.e (.e (.e (.e .o1))))))) I I)<|.allocZ I I I I (.agg Zc30 (ds':=[eA [],eB [],eC [],.val (.slice none 0 0),eE [],.val (.slice none 0 0),eG []]) (.o (.o (.o (.e (.o (.e .o1))))))) I<|.nilCell 1 3 6 135 I I<|.nilCell 1 5 5 65 I I<|.store I I I I I I (.ofD I) C30 I (yd I)<|.nilCell 1 3 6 135 I I<|.nilCell 1 5 5 65 I I<|.nil<|.K [0,1] I<|.seq<|.sA 1 I<|.block<|.L [0,1] h (λv=>[(13,.d (.int v.2.2))]) (λv=>[(1,.box 30 [.d (eA [3]),.d (eB [(⟨[114],0,[0],(⟨0,1⟩:Range),0⟩:Table)]),.d (eC [[114]]),.vec 4 (List.length v.1),.d (eE [(⟨[109,97,114,107],false,[0]⟩:Operation)]),.vec 5 (List.length v.2.1),.d (eG [])]),(4,.vec 135 6 (List.map Constraint.enc v.1)),(5,.vec 65 5 (List.map Action.enc v.2.1))]) I λ_ ⟨b4_11,b5_12,x13⟩ h=>.sA 1 I<|.K [0,1,13,14] I<|.seq<|.condS I h (λh=>?_) λh=>?_
 ·refine .skip<|.seq<|.block<|.sA 2 I<|.sr<|.p I (.fieldAddrLoc I I I F30_3)<|.p I (.loadLoc1 I I I Y25 I)<|.A 1 I<|.p I (.castD (Term.enc (⟨x13,(-1)⟩:Term)) I (.build I Pl129 (.agg Zc129 (ds':=[_,_]) (.e .e1)) I I))<|.p I (.buildSl [_] I I E70 I (λ_=>I) I (enc:=Term.enc))<|.p I (.castD (Row.enc (⟨[(⟨x13,(-1)⟩:Term)],0⟩:Row)) I (.build I Pl72 (.agg Zc72 (ds':=[_,_]) (.e .e1)) I I))<|.p I (.castD (Constraint.enc (⟨0,0,(⟨[(⟨x13,(-1)⟩:Term)],0⟩:Row),0,0⟩:Constraint)) I (.build I Pl135 (.agg Zc135 (ds':=[_,_,_,_,_,_]) (.e (.e (.e (.e (.e .e1)))))) I I))<|.A 1 I<|.p I (.castD (Term.enc (⟨x13,1⟩:Term)) I (.build I Pl129 (.agg Zc129 (ds':=[_,_]) (.e .e1)) I I))<|.p I (.buildSl [_] I I E70 I (λ_=>I) I (enc:=Term.enc))<|.p I (.castD (Row.enc (⟨[(⟨x13,1⟩:Term)],1⟩:Row)) I (.build I Pl72 (.agg Zc72 (ds':=[_,_]) (.e .e1)) I I))<|.p I (.castD (Constraint.enc (⟨0,0,(⟨[(⟨x13,1⟩:Term)],1⟩:Row),0,0⟩:Constraint)) I (.build I Pl135 (.agg Zc135 (ds':=[_,_,_,_,_,_]) (.e (.e (.e (.e (.e .e1)))))) I I))<|.p I (.buildSl [_,_] I I E25 I (λ_=>I) I (enc:=Constraint.enc))<|bK h λx15 q15 h=>.app I I I I I I I I E25 I (λ_=>I) q15<|.p I (.fieldAddrLoc I I I F30_3)<|.store I I I I I I (.cons (.vec I (by simp)) .nil) C25 I (yd I)<|.nil<|.K [0,1,2,13] I<|.region<|.p I (.fieldAddrLoc I I I F30_5)<|.p I (.loadLoc1 I I I Y27 I)<|.A 1 I<|.p I (.buildSl [_] I I E22 I (λ_=>I) I (enc:=D.int))<|.A 1 I<|.p I (.castD (Change.enc (⟨x13,1⟩:Change)) I (.build I Pl137 (.agg Zc137 (ds':=[_,_]) (.e .e1)) I I))<|.p I (.buildSl [_] I I E59 I (λ_=>I) I (enc:=Change.enc))<|.p I (.castD (Effect.enc (⟨[(⟨x13,1⟩:Change)],[],[]⟩:Effect)) I (.build I Pl63 (.agg Zc63 (ds':=[_,eH [],eI []]) (.e (.o .o1))) I I)) ?_
  refine .p I (.castD (Action.enc (⟨0,[x13],(⟨[(⟨x13,1⟩:Change)],[],[]⟩:Effect)⟩:Action)) I (.build I Pl65 (.agg Zc65 (ds':=[_,_,_,_,_]) (.e (.e (.e (.e .e1))))) I I))<|.p I (.buildSl [_] I I E27 I (λ_=>I) I (enc:=Action.enc))<|bK h λx16 q16 h=>.app I I I I I I I I E27 I (λ_=>I) q16<|.p I (.fieldAddrLoc I I I F30_5)<|.store I I I I I I (.cons (.vec I (by simp)) .nil) C27 I (yd I)<|.nil<|.rA 2 I (ndE h I)
 ·refine .exit<|.sr<|.p I (.loadLoc I I I Y30 (yd I) I)<|.store I I I I I I (.cons (.d I) (.cons (.d I) (.cons (.d I) (.cons (.vec I (by simp)) (.cons (.d I) (.cons (.vec I (by simp)) (.cons (.d I) .nil))))))) C30 I (yd I)<|.nil<|.ret ?_
  cases h
  exact zit I I Y30 (.v (.v (.v (.cons (.vec I (by simp)) (.v (.cons (.vec I (by simp)) .v1))))))
theorem zel (n t0) (t1:Int→Option Bool) (F1:D) (hF1:∀ (q0:Int) (y:Bool),t1 q0=some y→Dyn pg F1 [.int q0] (.bool y)) (r) (h:z0 n t0 t1=some r):Pure pg 213 [eA t0,F1] (.int r):=by
 refine Pure.ot Tryz.func213 I Tryz.ntmps213 I λA w=>.sA 1 I<|.seq<|.S 1 I<|.p I (.len I U22 I)<|.A 1 I<|.nil<|.block<|.L [0,1,7] h (λv=>[(8,.d (.int v))]) (λv=>[]) I λ_ x7 h=>.sA 1 I<|.seq<|.condS I h (λh=>?_) λh=>?_
 ·refine .skip<|.seq<|.block<|.sA 2 I<|.S 3 I<|.X h I λx9 h=>.A 1 I<|bK h λx10 q10 h=>.p I (.dyn I I I (hF1 _ _ q10))<|.nil<|.condS I h (λh=>?_) λh=>?_
  ·refine .sA 2 I<|.ret (rO h I)
  ·refine .skip<|.rA 2 I (ndE h I)
 ·refine .exit<|.sA 1 I<|.ret (rO h I)
theorem zbq (n t0) (t1:Int→Option Bool) (F1:D) (hF1:∀ (q0:Int) (y:Bool),t1 q0=some y→Dyn pg F1 [.int q0] (.bool y)) (r) (h:zG n t0 t1=some r):Pure pg 169 [eA t0,F1] (.bool r):=by
 refine Pure.ot Tryz.func169 I Tryz.ntmps169 I λA w=>.sA 1 I<|.S 2 I<|.Z h I (zel _ _ _ _ hF1) λx1 h=>.A 2 I<|.nil<|.ret (rO h I)
theorem zgd (n t0 t1 t2 r) (h:zdY n t0 t1 t2=some r):Pure pg 159 [.int t0,.int t1,.int t2] (.bool r):=by
 refine Pure.ot Tryz.func159 I Tryz.ntmps159 I λA w=>.sA 1 I<|.seq<|.plain 8 I<|.A 4 I<|.jA 3 (decide (t0≤t2)) I (λb1=>?_) ?_
 ·refine .A 3 I<|.nil I
 refine .nil<|.A 1 I<|.nil<|.ret (rO h I)
theorem zi8 (n t0 r) (h:zfD n t0=some r):Pure pg 207 [.int t0] (.bool r):=by
 refine Pure.ot Tryz.func207 I Tryz.ntmps207 I λA w=>.sA 1 I<|.S 1 I<|.Z h I (zgd _ _ _ _) λx1 h=>.A 2 I<|.nil<|.ret (rO h I)
theorem zkz (n t0 r) (h:zfC n t0=some r):Pure pg 157 [eA t0] (.bool r):=by
 refine Pure.ot Tryz.func157 I Tryz.ntmps157 I λA w=>.sA 1 I<|.S 1 I<|.Z h I (zbq _ _ _ _ (λq0 y hq=>⟨_,_,I,K207,zi8 _ q0 _ hq⟩)) λx1 h=>.A 2 I<|.nil<|.ret (rO h I)
theorem zeK (n t0 t1 r) (h:zae n t0 t1=some r):Pure pg 241 [eJ t0,.bool t1] (.int r):=by
 refine Pure.ot Tryz.func241 I Tryz.ntmps241 I λA w=>.sA 1 I<|.seq<|.S 1 I<|.p I (.len I U244 I)<|.A 1 I<|.nil<|.block<|.L [0,1,7] h (λv=>[(8,.d (.int v))]) (λv=>[]) I λ_ x5 h=>.sA 1 I<|.seq<|.condS I h (λh=>?_) λh=>?_
 ·refine .skip<|.seq<|.block<|.sA 2 I<|.S 3 I<|.X h I λx7 h=>.A 1 I<|.p I (.beq I U4 I I)<|.nil<|.condS I h (λh=>?_) λh=>?_
  ·refine .sA 2 I<|.ret (rO h I)
  ·refine .skip<|.rA 2 I (ndE h I)
 ·refine .exit<|.sA 1 I<|.ret (rO h I)
theorem zd6 (n t0 t1 r) (h:zbU n t0 t1=some r):Pure pg 206 [eJ t0,.bool t1] (.bool r):=by
 refine Pure.ot Tryz.func206 I Tryz.ntmps206 I λA w=>.sA 1 I<|.S 2 I<|.Z h I (zeK _ _ _) λx1 h=>.A 2 I<|.nil<|.ret (rO h I)
theorem ziQ (n t0 r) (h:zgc n t0=some r):Pure pg 156 [eJ t0] (.bool r):=by
 refine Pure.ot Tryz.func156 I Tryz.ntmps156 I λA w=>.sA 1 I<|.S 1 I<|.Z h I (zd6 _ _ _) λx1 h=>.A 2 I<|.nil<|.ret (rO h I)
theorem zgE (n t0) (t1:Int→Option Bool) (F1:D) (hF1:∀ (q0:Int) (y:Bool),t1 q0=some y→Dyn pg F1 [.val (.int .i32 q0)] (.bool y)) (r) (h:zeW n t0 t1=some r):Pure pg 300 [.str t0,F1] (eC r):=by
 refine Pure.ot Tryz.func300 I Tryz.ntmps300 I λA w=>.sr<|.p I (.nilS 1 (α:=List UInt8) D.str I)<|.nil<|.seq<|.region ?_
 cases h
theorem zh6 (n t0 r) (h:zgH n t0=some r):Pure pg 301 [.val (.int .i32 t0)] (.bool r):=by
 refine Pure.ot Tryz.func301 I Tryz.ntmps301 I λA w=>.sA 1 I<|.seq<|.S 1 I<|.p I (.conv I U21 U220 I)<|.A 1 I<|.nil<|.condS I h (λh=>?_) λh=>?_
 ·refine .seq<|.sA 1 I<|.block<|.J [] h (λv=>[(7,.d (.bool v))]) (λv=>[]) I (λk_2 h=>?_) (λx1 h=>?_)
  ·refine .sA 2 I<|.condS I h (λh=>?_) λh=>?_
   ·refine .skip (ndE h I)
   ·refine .sA 2 I<|.condS I h (λh=>?_) λh=>?_
    ·refine .skip (ndE h I)
    ·refine .sA 2 I<|.condS I h (λh=>?_) λh=>?_
     ·refine .skip (ndE h I)
     ·refine .sA 2 I<|.condS I h (λh=>?_) λh=>?_
      ·refine .skip (ndE h I)
      ·refine .sA 2 I<|.condS I h (λh=>?_) λh=>?_
       ·refine .skip (ndE h I)
       ·refine .sA 2 I<|.K [6,7] I<|.condS I h (λh=>?_) λh=>?_
        ·refine .skip (ndE h I)
        ·refine .sA 2 I<|.condS I h (λh=>?_) λh=>?_
         ·refine .skip (ndE h I)
         ·refine .rA 2 I (ndE h I)
  ·refine .condS I h (λh=>?_) λh=>?_
   ·refine .sA 1 I<|.K [2] I<|.ret (rO h I)
   ·refine .skip<|.K [] I<|.sA 1 I<|.ret (rO h I)
 ·refine .skip<|.seq<|.region ?_
  cases h
theorem ziv (n t0 r) (h:za4 n t0=some r):Pure pg 294 [.str t0] (eC r):=by
 refine Pure.ot Tryz.func294 I Tryz.ntmps294 I λA w=>.sr<|.p I (.nilS 1 (α:=List UInt8) D.str I)<|.nil<|.sA 1 I<|.sA 1 I<|.sA 1 I<|.seq<|.sA 1 I<|.block<|.L [0] h (λv=>[(3,.d (.int v.1)),(4,.d (.int v.2.1)),(5,.d (.val (.int .u8 v.2.2.1))),(6,.d (.int v.2.2.2))]) (λv=>[]) I λ_ ⟨x13,x14,x15,x16⟩ h=>.seq<|.S 2 I<|.p I (.len_str I U9 I)<|.A 1 I<|.nil<|.K [0,3,4,5,6,16] I<|.condS I h (λh=>?_) λh=>?_
 ·refine .skip<|.seq<|.block<|.S 2 I<|bK h λx18 q18 h=>.p I (.sidx I I I U9 q18)<|.A 1 I<|.nil<|.S 2 I<|.p I (.bor I I I)<|.A 1 I<|.nil<|.S 1 I<|bK h λx19 q19 h=>.p I (.idxG (l:=tab0) I I I gm0 U313 S5 tl0 q19)<|.A 1 I<|.p I (.conv I U5 U3 I)<|.A 1 I<|.nil<|.S 3 I<|.p I (.bnot I I)<|.p I (.band I I I)<|.A 2 I<|.nil<|.K [0,3,5,6,8] I<|.rA 2 I<|.rA 3 I (ndE h I)
 ·refine .exit<|.seq<|.sA 2 I<|.condS I h (λh=>?_) λh=>?_
  ·refine .S 1 I<|.Z h I (zgE _ _ _ _ (λq0 y hq=>⟨_,_,I,K301,zh6 _ q0 _ hq⟩)) λx20 h=>.A 1 I<|.nil<|.ret ?_
   cases h
   exact zb9 I (.d _)
  ·refine .skip<|.S 1 I<|bK h λx21 q21 h=>.makeVec (enc:=D.str) (z:=([]:List UInt8)) I I I I E24 I I I (.val Zv9) q21<|.A 1 I<|.nil<|.sA 1 I<|.sA 1 I<|.sA 1 I<|.seq<|.block<|.L [0,9,10] h (λv=>[(12,.d (.int v))]) (λv=>[]) I λ_ x30 h=>.seq<|.seq<|.plain 12 I<|.A 2 I<|.p I (.len_str I U9 I)<|.A 2 I<|gK h λc33 h=>gK h λc34 h=>.jA 6 (((idx tab0 ((sidx t0 x30).getD default)).getD default) != 0) I (λb32=>?_) ?_
   ·refine .A 2 I<|.q I (.sidx I I I U9 (someD (impT c33 b32)))<|.q I (.idxG (l:=tab0) I I I gm0 U313 S5 tl0 (someD (impT c34 b32)))<|.A 2 I<|.nil I
   refine .nil<|.nil<|.K [0,9,10,12,53] I<|.condS I h (λh=>?_) λh=>?_
   ·refine .skip<|.block<|.rA 3 I (ndE h I)
   ·refine .exit<|.sA 2 I<|.seq<|.block<|.L [0] h (λv=>[(9,.vec 0 (List.length v.1)),(10,.d (.int v.2.1)),(11,.d (.int v.2.2.1)),(12,.d (.int v.2.2.2))]) (λv=>[(0,.vec 9 1 (List.map D.str v.1))]) I λ_ ⟨b0_79,x80,x81,x82⟩ h=>.seq<|.S 2 I<|.p I (.len_str I U9 I)<|.A 1 I<|.nil<|.K [0,9,10,11,12,60] I<|.condS I h (λh=>?_) λh=>?_
    ·refine .skip<|.block<|.seq<|.S 2 I<|bK h λx84 q84 h=>.p I (.sidx I I I U9 q84)<|bK h λx85 q85 h=>.p I (.idxG (l:=tab0) I I I gm0 U313 S5 tl0 q85)<|.A 2 I<|.nil<|.condS I h (λh=>?_) λh=>?_
     ·refine .sA 3 I<|.exit (ndE h I)
     ·refine .skip<|.S 5 I<|bK h λx86 q86 h=>.p I (.cutStrLH I I I I U9 q86)<|bK h λx87 q87 h=>.p I (.idxV I I I I I U24 S9 q87)<|bK h λb0_88 hb0_88 h=>.storeEl (enc:=D.str) I I I I I I I I I C9 hb0_88<|.relen 9 I (zfe hb0_88)<|.relen 69 I (zfe hb0_88)<|.nil<|.sA 3 I<|.K [0,9,10,12] I<|.sA 3 I<|.seq<|.block<|.L [0,9,10] h (λv=>[(12,.d (.int v))]) (λv=>[]) I λ_ x97 h=>.seq<|.seq<|.plain 12 I<|.A 2 I<|.p I (.len_str I U9 I)<|.A 2 I<|gK h λc100 h=>gK h λc101 h=>.jA 6 (((idx tab0 ((sidx t0 x97).getD default)).getD default) != 0) I (λb99=>?_) ?_
      ·refine .A 2 I<|.q I (.sidx I I I U9 (someD (impT c100 b99)))<|.q I (.idxG (l:=tab0) I I I gm0 U313 S5 tl0 (someD (impT c101 b99)))<|.A 2 I<|.nil I
      refine .nil<|.nil<|.K [0,9,10,12,91] I<|.condS I h (λh=>?_) λh=>?_
      ·refine .skip<|.block<|.rA 3 I (ndE h I)
      ·refine .exit<|.rA 2 I (ndE h I)
    ·refine .exit<|.J [] h (λv=>[(9,.vec 0 (List.length v))]) (λv=>[(0,.vec 9 1 (List.map D.str v))]) I (λk_103 h=>?_) (λb0_102 h=>?_)
     ·refine .S 2 I<|.p I (.len_str I U9 I)<|.A 1 I<|.nil<|.condS I h (λh=>?_) λh=>?_
      ·refine .region<|.A 4 I<|bK h λx104 q104 h=>.p I (.cutStrL I I I U9 q104)<|bK h λx105 q105 h=>.p I (.idxV I I I I I U24 S9 q105)<|bK h λb0_106 hb0_106 h=>.storeEl (enc:=D.str) I I I I I I I I I C9 hb0_106<|.relen 9 I (zfe hb0_106)<|.relen 99 I (zfe hb0_106)<|.nil (ndE h I)
      ·refine .skip (ndE h I)
     ·refine .sA 2 I<|.K [2] I<|.ret ?_
      cases h
      exact zb9 I (.vec I (by simp))
theorem zil (n r) (h:zbH n=some r):Pure pg 276 [] (GMap.dat (λl:List UInt8=>Value.string ⟨l.toArray⟩) D.bool r):=by
 refine Pure.ot Tryz.func276 I Tryz.ntmps276 I λA w=>.sA 1 I<|.sr<|.makeMap (λl:List UInt8=>Value.string ⟨l.toArray⟩) D.bool I I I I<|.A 1 I<|.nil<|.seq<|.sr<|.Z h I (ziv _ _) λx1 h=>.p I (.len I U24 I)<|.A 1 I<|.nil<|.block<|.L [1,5,6] h (λv=>[(7,.d (.int v.2))]) (λv=>[(0,GMap.blk (λl:List UInt8=>Value.string ⟨l.toArray⟩) D.bool v.1)]) I λ_ ⟨m0_8,x9⟩ h=>.sA 1 I<|.K [1,5,6,7,8] I<|.seq<|.condS I h (λh=>?_) λh=>?_
 ·refine .skip<|.seq<|.block<|.sr<|.X h I λx11 h=>.A 2 I<|.nil<|.region<|.A 2 I<|.mapPut (k:=x11) (v:=true) I I I U201 KT9 I I I I<|.nil<|.rA 2 I (ndE h I)
 ·refine .exit<|.sA 2 I<|.ret ?_
  cases h
  exact zb9 I (.mp I (GMap.wfm _))
theorem zg2 (n t0 r) (h:zb5 n t0=some r):Pure pg 284 [.val (.int .u8 t0)] (.bool r):=by
 refine Pure.ot Tryz.func284 I Tryz.ntmps284 I λA w=>.sA 1 I<|.seq<|.plain 14 I<|.A 3 I<|.jO 2 (t0==9) I (λb1=>?_) ?_
 ·refine .A 2 I<|.nil I
 refine .A 1 I<|.jO 2 (t0==10) I (λb2=>?_) ?_
 ·refine .A 2 I<|.nil I
 refine .A 1 I<|.jO 2 (t0==13) I (λb3=>?_) ?_
 ·refine .A 2 I<|.nil I
 refine .nil<|.A 1 I<|.nil<|.K [2] I<|.ret (rO h I)
theorem zgl (n t0) (t1:Int→Option Bool) (F1:D) (hF1:∀ (q0:Int) (y:Bool),t1 q0=some y→Dyn pg F1 [.val (.int .u8 q0)] (.bool y)) (r) (h:zcI n t0 t1=some r):Pure pg 280 [.str t0,F1] (.int r):=by
 refine Pure.ot Tryz.func280 I Tryz.ntmps280 I λA w=>.sA 1 I<|.sA 1 I<|.seq<|.block<|.L [0,1] h (λv=>[(5,.d (.int v))]) (λv=>[]) I λ_ x9 h=>.seq<|.seq<|.plain 11 I<|.A 2 I<|.p I (.len_str I U9 I)<|.A 2 I<|gK h λc12 h=>gK h λc13 h=>.jA 5 (((t1 ((sidx t0 x9).getD default)).getD default)) I (λb11=>?_) ?_
 ·refine .A 3 I<|.q I (.sidx I I I U9 (someD (impT c12 b11)))<|.q I (.dyn I I I (hF1 _ _ (someD (impT c13 b11))))<|.nil I
 refine .nil<|.nil<|.K [0,1,5,16] I<|.condS I h (λh=>?_) λh=>?_
 ·refine .skip<|.block<|.rA 3 I (ndE h I)
 ·refine .exit<|.sA 2 I<|.ret (rO h I)
theorem zjX (n t0 r) (h:zgm n t0=some r):Pure pg 295 [.val (.int .u8 t0)] (.bool r):=by
 refine Pure.ot Tryz.func295 I Tryz.ntmps295 I λA w=>.sA 1 I<|.sA 3 I<|.ret (rO h I)
theorem zlJ (n t0 r) (h:zcP n t0=some r):Pure pg 278 [.str t0] (.int r):=by
 refine Pure.ot Tryz.func278 I Tryz.ntmps278 I λA w=>.sA 1 I<|.sA 1 I<|.seq<|.block<|.L [0] h (λv=>[(3,.d (.int v))]) (λv=>[]) I λ_ x13 h=>.seq<|.S 2 I<|.p I (.len_str I U9 I)<|.A 1 I<|.nil<|.K [0,3,7] I<|.condS I h (λh=>?_) λh=>?_
 ·refine .skip<|.block<|.block<|.S 2 I<|bK h λx15 q15 h=>.p I (.sidx I I I U9 q15)<|.Z h I (zg2 _ _) λx16 h=>.A 1 I<|.nil<|.condS I h (λh=>?_) λh=>?_
  ·refine .rA 3 I (ndE h I)
  ·refine .S 2 I<|bK h λx17 q17 h=>.p I (.sidx I I I U9 q17)<|.A 2 I<|.nil<|.condS I h (λh=>?_) λh=>?_
   ·refine .region<|.A 3 I<|bK h λx18 q18 h=>.p I (.cutStrL I I I U9 q18)<|.Z h I (zgl _ _ _ _ (λq0 y hq=>⟨_,_,I,K295,zjX _ q0 _ hq⟩)) λx19 h=>.A 2 I<|.nil (ndE h I)
   ·refine .sA 2 I<|.ret (rO h I)
 ·refine .exit<|.sA 2 I<|.ret (rO h I)
theorem zer (n t0 r) (h:zcH n t0=some r):Pure pg 279 [.val (.int .u8 t0)] (.bool r):=by
 refine Pure.ot Tryz.func279 I Tryz.ntmps279 I λA w=>.sA 1 I<|.seq<|.plain 6 I<|.A 3 I<|.jA 2 (decide (t0≤122)) I (λb1=>?_) ?_
 ·refine .A 2 I<|.nil I
 refine .nil<|.A 1 I<|.nil<|.ret (rO h I)
theorem zdQ (n t0 r) (h:zbo n t0=some r):Pure pg 282 [.val (.int .u8 t0)] (.bool r):=by
 refine Pure.ot Tryz.func282 I Tryz.ntmps282 I λA w=>.sA 1 I<|.seq<|.plain 6 I<|.A 3 I<|.jA 2 (decide (t0≤57)) I (λb1=>?_) ?_
 ·refine .A 2 I<|.nil I
 refine .nil<|.A 1 I<|.nil<|.ret (rO h I)
theorem zlI (n t0 r) (h:zim n t0=some r):Pure pg 281 [.val (.int .u8 t0)] (.bool r):=by
 refine Pure.ot Tryz.func281 I Tryz.ntmps281 I λA w=>.sA 1 I<|.seq<|.plain 10 I<|.A 1 I<|.Z h I (zer _ _) λx1 h=>.A 1 I<|gK h λc3 h=>.jO 2 (((zbo n t0).getD default)) I (λb2=>?_) ?_
 ·refine .A 1 I<|.q I (.call I (kC I) I (zdQ _ _ _ (someD (impF c3 b2))))<|.nil I
 refine .A 1 I<|.jO 2 (t0==95) I (λb4=>?_) ?_
 ·refine .A 2 I<|.nil I
 refine .nil<|.A 1 I<|.nil<|.ret (rO h I)
theorem zdv (n t0 t1 r) (h:zbt n t0 t1=some r):Pure pg 302 [.str t0,.str t1] (.bool r):=by
 refine Pure.ot Tryz.func302 I Tryz.ntmps302 I λA w=>.sA 1 I<|.seq<|.plain 13 I<|.A 1 I<|.p I (.len_str I U9 I)<|.A 1 I<|.p I (.len_str I U9 I)<|.A 2 I<|gK h λc2 h=>.jA 6 (decide (((cut t0 0 (t1.length:Int)).getD default)=t1)) I (λb1=>?_) ?_
 ·refine .A 2 I<|.q I (.len_str I U9 I)<|.q I (.cutStrH I I I U9 (someD (impT c2 b1)))<|.A 1 I<|.q I (.str_eql I I I)<|.nil I
 refine .nil<|.A 1 I<|.nil<|.ret (rO h I)
theorem zgW (n t0 t1 r) (h:zcV n t0 t1=some r):Pure pg 296 [.str t0,.str t1] (.bool r):=by
 refine Pure.ot Tryz.func296 I Tryz.ntmps296 I λA w=>.sA 1 I<|.S 2 I<|.Z h I (zdv _ _ _) λx1 h=>.A 1 I<|.nil<|.ret (rO h I)
theorem zdw (n t0 t1 r) (h:zbu n t0 t1=some r):Pure pg 303 [.str t0,.val (.int .u8 t1)] (.int r):=by
 refine Pure.ot Tryz.func303 I Tryz.ntmps303 I λA w=>.sA 1 I<|.S 2 I<|.p I (.idxByte I IB305 I I)<|.A 1 I<|.nil<|.ret (rO h I)
theorem zgX (n t0 t1 r) (h:zch n t0 t1=some r):Pure pg 297 [.str t0,.val (.int .u8 t1)] (.int r):=by
 refine Pure.ot Tryz.func297 I Tryz.ntmps297 I λA w=>.sA 1 I<|.S 2 I<|.Z h I (zdw _ _ _) λx1 h=>.A 1 I<|.nil<|.ret (rO h I)
theorem zes (n t0 r) (h:zbg n t0=some r):Pure pg 283 [.str t0] (.int r):=by
 refine Pure.ot Tryz.func283 I Tryz.ntmps283 I λA w=>.sA 1 I<|.seq<|.sr<|.p I (.buildSl [_,_,_,_,_] I I E24 I (λ_=>I) I (enc:=D.str))<|.p I (.len I U24 I)<|.A 1 I<|.nil<|.block<|.L [0,5,6] h (λv=>[(7,.d (.int v))]) (λv=>[]) I λ_ x7 h=>.sA 1 I<|.seq<|.condS I h (λh=>?_) λh=>?_
 ·refine .skip<|.seq<|.block<|.sr<|.X h I λx9 h=>.A 2 I<|.nil<|.S 2 I<|.Z h I (zgW _ _ _) λx10 h=>.nil<|.condS I h (λh=>?_) λh=>?_
  ·refine .sA 1 I<|.ret (rO h I)
  ·refine .skip<|.rA 2 I (ndE h I)
 ·refine .exit<|.seq<|.seq<|.plain 8 I<|.A 1 I<|.p I (.str_neq I I I)<|.A 1 I<|gK h λc12 h=>gK h λc13 h=>.jA 4 (decide (0≤((zch n [60,62,61,43,45,42,40,41,123,125,44,58,59] ((sidx t0 0).getD default)).getD default))) I (λb11=>?_) ?_
  ·refine .A 1 I<|.q I (.sidx I I I U9 (someD (impT c12 b11)))<|.q I (.call I (kC I) I (zgX _ _ _ _ (someD (impT c13 b11))))<|.A 1 I<|.nil I
  refine .nil<|.nil<|.condS I h (λh=>?_) λh=>?_
  ·refine .sA 1 I<|.ret (rO h I)
  ·refine .skip<|.sA 1 I<|.ret (rO h I)
theorem zjU (n t0 r) (h:zdm n t0=some r):Pure pg 285 [.str t0] (.bool r):=by
 refine Pure.ot Tryz.func285 I Tryz.ntmps285 I λA w=>.sA 1 I<|.seq<|.plain 13 I<|.A 1 I<|bK h λx1 q1 h=>.p I (.sidx I I I U9 q1)<|.Z h I (zer _ _) λx2 h=>.A 1 I<|gK h λc4 h=>gK h λc5 h=>.jO 3 (((zbo n ((sidx t0 0).getD default)).getD default)) I (λb3=>?_) ?_
 ·refine .A 1 I<|.q I (.sidx I I I U9 (someD (impF c4 b3)))<|.q I (.call I (kC I) I (zdQ _ _ _ (someD (impF c5 b3))))<|.nil I
 refine .A 1 I<|gK h λc7 h=>.jO 3 (decide (0<((zbg n t0).getD default))) I (λb6=>?_) ?_
 ·refine .A 1 I<|.q I (.call I (kC I) I (zes _ _ _ (someD (impF c7 b6))))<|.A 1 I<|.nil I
 refine .nil<|.A 1 I<|.nil<|.ret (rO h I)
theorem zhD (n:Nat) (t1:List UInt8) (t2:GMap (List UInt8) Bool) (F0:D) (C:Ctx) (hC:C.n=93) (hG:C.gn=0) (Q0:Exit→St→Prop) (r:Token) (h:zaC n t1 t2=some r)
  (hY:∀ (Q:Exit→St→Prop) (T:List (Nat×V)) (H:List Blk) (j:Nat),look 0 T=some (.d F0)→look 5 T=some (.loc j 0)→H[j]? = some (.box 227 (V.cellsV (.d (Token.enc r))))→Tri pg C tokX Q ⟨T,H⟩) :
  Tri pg C (znr pg 277) Q0 ⟨params 0 [F0,.ref (.str t1),.ref (GMap.dat (λl:List UInt8=>Value.string ⟨l.toArray⟩) D.bool t2)],[]⟩:=by
 obtain ⟨A0,own0,w0,n0,esc,gh,gn⟩:=C
 simp only at hC hG
 subst hC
 subst hG
 rw [zhu Tryz.func277 I]
 refine .sA 1 I<|.block<|.L [0,1,2,4] h (λv=>[]) (λv=>[]) I λ_ v h=>.block<|.S 4 I<|bK h λx45 q45 h=>.p I (.cutStrL I I I U9 q45)<|.Z h I (zlJ _ _) λx46 h=>.A 1 I<|.p I (.castD (Token.enc (⟨0,0,add64 0 x46,0⟩:Token)) I (.build I Pl227 (.agg Zc227 (ds':=[_,_,_,_]) (.e (.e (.e .e1)))) I I))<|.allocZ I I I I (.agg Zc227 (ds':=[.int 0,.int 0,.int 0,.int 0]) (.e (.e (.e .e1)))) I<|.store I I I I I I (.ofD I) C227 I (yd I)<|.nil<|.K [0,1,2,5] I<|.S 1 I<|.p I (.fieldAddrLoc I I I zox)<|.p I (.loadLoc1 I I I Y3 I)<|bK h λx47 q47 h=>.p I (.cutStrL I I I U9 q47)<|.A 1 I<|.nil<|.sA 1 I<|.J [0,1,2,5] h (λv=>[(7,.d (.int v.2))]) (λv=>[(0,.box 227 [.d (.int v.1),.d (.int 0),.d (.int (add64 0 x46)),.d (.int 0)])]) I (λk_50 h=>?_) (λv h=>?_)
 ·refine .block<|.S 1 I<|.p I (.str_eql I I I)<|.A 1 I<|.nil<|.condS I h (λh=>?_) λh=>?_
  ·refine .skip (ndE h I)
  ·refine .S 1 I<|bK h λx51 q51 h=>.p I (.sidx I I I U9 q51)<|.Z h I (zer _ _) λx52 h=>.A 1 I<|.nil<|.condS I h (λh=>?_) λh=>?_
   ·refine .S 1 I<|.Z h I (zgl _ _ _ _ (λq0 y hq=>⟨_,_,I,K281,zlI _ q0 _ hq⟩)) λx53 h=>.A 1 I<|.p I (.fieldAddrLoc I I I zkU)<|.store I I I I I I (.ofD I) C3 I (yd I)<|.nil<|.K [0,1,2,5,6,7] I<|.seq<|.draw 5 Hm (by kernel_rfl) (by kernel_rfl)<|.A 3 I<|bK h λx54 q54 h=>.p I (.cutStrH I I I U9 q54)<|.p I (.mapGetD (ke:=(λl:List UInt8=>Value.string ⟨l.toArray⟩)) (ve:=D.bool) I U201 KT9 I I (z:=(false:Bool)) (.val Zv4))<|.nil<|.nil<|.condS I h (λh=>?_) λh=>?_
    ·refine .region<|.p I (.fieldAddrLoc I I I zkU)<|.store I I I I I I (.ofD I) C3 I (yd I)<|.nil (ndE h I)
    ·refine .skip (ndE h I)
   ·refine .S 1 I<|bK h λx55 q55 h=>.p I (.sidx I I I U9 q55)<|.Z h I (zdQ _ _) λx56 h=>.A 1 I<|.nil<|.K [0,1,2,5,6,63] I<|.condS I h (λh=>?_) λh=>?_
    ·refine .region<|.A 1 I<|.Z h I (zgl _ _ _ _ (λq0 y hq=>⟨_,_,I,K282,zdQ _ q0 _ hq⟩)) λx57 h=>.A 1 I<|.p I (.fieldAddrLoc I I I zkU)<|.store I I I I I I (.ofD I) C3 I (yd I)<|.nil (ndE h I)
    ·refine .S 1 I<|.Z h I (zes _ _) λx58 h=>.A 2 I<|.nil<|.condS I h (λh=>?_) λh=>?_
     ·refine .region<|.A 1 I<|.Z h I (zes _ _) λx59 h=>.A 1 I<|.p I (.fieldAddrLoc I I I zkU)<|.store I I I I I I (.ofD I) C3 I (yd I)<|.nil (ndE h I)
     ·refine .sr<|.p I (.fieldAddrLoc I I I zkU)<|.store I I I I I I (.ofD I) C3 I (yd I)<|.nil<|.sA 1 I<|.block<|.L [0,1,2,5,6] h (λv=>[(7,.d (.int v))]) (λv=>[]) I λ_ x78 h=>.seq<|.seq<|.plain 24 I<|.A 2 I<|.p I (.len_str I U9 I)<|.A 2 I<|gK h λc81 h=>gK h λc82 h=>.jA 5 (!((zb5 n ((sidx x47 x78).getD default)).getD default)) I (λb80=>?_) ?_
      ·refine .A 2 I<|.q I (.sidx I I I U9 (someD (impT c81 b80)))<|.q I (.call I (kC I) I (zg2 _ _ _ (someD (impT c82 b80))))<|.A 1 I<|.nil I
      refine .A 1 I<|gK h λc84 h=>.jA 4 (((sidx x47 x78).getD default) != 35) I (λb83=>?_) ?_
      ·refine .A 2 I<|.q I (.sidx I I I U9 (someD (impT c84 b83)))<|.A 1 I<|.nil I
      refine .A 1 I<|gK h λc86 h=>gK h λc87 h=>.jA 5 (!((zdm n ((cut x47 x78 (x47.length:Int)).getD default)).getD default)) I (λb85=>?_) ?_
      ·refine .A 2 I<|.q I (.cutStrL I I I U9 (someD (impT c86 b85)))<|.q I (.call I (kC I) I (zjU _ _ _ (someD (impT c87 b85))))<|.A 1 I<|.nil I
      refine .nil<|.nil<|.K [0,1,2,5,6,7,44] I<|.condS I h (λh=>?_) λh=>?_
      ·refine .skip<|.seq<|.block<|.skip<|.rA 3 I (ndE h I)
      ·refine .exit (ndE h I)
 ·obtain ⟨c0_0_48,x49⟩:=v
  refine .sr<|.p I (.fieldAddrLoc I I I zox)<|.p I (.loadLoc1 I I I Y3 I)<|.A 2 I<|.p I (.fieldAddrLoc I I I zoy)<|.store I I I I I I (.ofD I) C3 I (yd I)<|.nil<|.K [0,1,2,5] I<|.sr<|.p I (.fieldAddrLoc I I I zoy)<|.p I (.loadLoc1 I I I Y3 I)<|.A 1 I<|.nil ?_
  cases h
  refine hY _ _ _ 0 ?_ ?_ ?_
  all_goals rfl
section
open Go Go.RowKit Go.Proofs
attribute [local go_sem] Oper.semAt_some
def kAsg : Code := (Code.region 4 #[{ dst := some 3, op := Op.alloc 227, type := 0, pos := "lexer.go:137", after := #[], guard := none }, { dst := none, op := Op.store 227 (Operand.tmp 3) (Operand.tmp 13), type := 0, pos := "lexer.go:137", after := #[{ on := 0, ground := Ground.data }, { on := 0, ground := Ground.phase }], guard := none }] false)
def kBody : Code := (Code.block 1 (((Code.region 5 #[{ dst := some 14, op := Op.fieldAddr 227 (Operand.tmp 3) 2, type := 0, pos := "lexer.go:138", after := #[], guard := none }, { dst := some 15, op := Op.load 3 (Operand.tmp 14), type := 3, pos := "lexer.go:138", after := #[{ on := 0, ground := Ground.data }], guard := none }, { dst := some 16, op := Op.binOp BinOp.neq 3 (Operand.tmp 15) (Operand.const (Value.int IntKind.i64 0)) 3, type := 4, pos := "lexer.go:138", after := #[{ on := 1, ground := Ground.data }], guard := none }, { dst := some 17, op := Op.move (Operand.tmp 16), type := 4, pos := "lexer.go:138", after := #[{ on := 2, ground := Ground.data }], guard := none }, { dst := some 18, op := Op.fieldAddr 227 (Operand.tmp 3) 3, type := 0, pos := "lexer.go:138", after := #[{ on := 3, ground := Ground.guard }], guard := some (3, false) }, { dst := some 19, op := Op.load 3 (Operand.tmp 18), type := 3, pos := "lexer.go:138", after := #[{ on := 4, ground := Ground.data }, { on := 3, ground := Ground.guard }], guard := some (3, false) }, { dst := some 20, op := Op.load 9 (Operand.tmp 1), type := 9, pos := "lexer.go:138", after := #[{ on := 3, ground := Ground.guard }], guard := some (3, false) }, { dst := some 21, op := Op.call { callee := Callee.builtin Builtin.len, args := #[Operand.tmp 20], argTypes := #[9] }, type := 3, pos := "lexer.go:138", after := #[{ on := 6, ground := Ground.data }, { on := 3, ground := Ground.guard }], guard := some (3, false) }, { dst := some 22, op := Op.binOp BinOp.neq 3 (Operand.tmp 19) (Operand.tmp 21) 3, type := 4, pos := "lexer.go:138", after := #[{ on := 5, ground := Ground.data }, { on := 7, ground := Ground.data }, { on := 3, ground := Ground.guard }], guard := some (3, false) }, { dst := some 23, op := Op.pick (Operand.tmp 17) (Operand.const (Value.bool true)) (Operand.tmp 22), type := 4, pos := "lexer.go:138", after := #[{ on := 3, ground := Ground.data }, { on := 8, ground := Ground.data }], guard := none }] false).seq (Code.cond (Operand.tmp 23) (Code.exit 0) Code.skip)).seq ((Code.region 6 #[{ dst := some 24, op := Op.fieldAddr 227 (Operand.tmp 3) 0, type := 0, pos := "lexer.go:141", after := #[], guard := none }, { dst := some 25, op := Op.load 3 (Operand.tmp 24), type := 3, pos := "lexer.go:141", after := #[{ on := 0, ground := Ground.data }], guard := none }, { dst := none, op := Op.store 3 (Operand.tmp 2) (Operand.tmp 25), type := 0, pos := "lexer.go:141", after := #[{ on := 1, ground := Ground.data }, { on := 0, ground := Ground.phase }, { on := 1, ground := Ground.phase }], guard := none }] false).seq Code.ret)))
def kRec (fn:FuncId) (tm:Array Value) (Dd:Nat) (st:LoopState) (pend:Option Code):Loop:=
  { state:=st,pending:=pend,fn,tmps:=tm,params:=#[13],assign:=kAsg,body:=kBody,defers:=Dd }
theorem zr8 (fn:FuncId) (l Dd B:Nat) (p1:Addr) (s:ByteArray) (k f a e:Int) (x0 x3 x4 x5 x6 x7 x8 x9 x10 x11 x12 x13 x14 x15 x16 x17 x18 x19 x20 x21 x22 x23 x24 x25:Value) (W:World) (hBl:B≠l) (hp:p1.block≠l)
    (hl:W.heap[l]? = some (.loop (kRec fn #[x0,.pointer (some p1),.pointer (some ⟨B,0,none⟩),x3,x4,x5,x6,x7,x8,x9,x10,x11,x12,x13,x14,x15,x16,x17,x18,x19,x20,x21,x22,x23,x24,x25] Dd .ready none))) (h1:W.cell? p1=some (.string s)) (hB:W.heap[B]? = some (.cells #[.int .i64 0] 3 (0,0))) :
    RoundIn Fence.wide 0 Tryz.prog l fn #[x0,.pointer (some p1),.pointer (some ⟨B,0,none⟩),x3,x4,x5,x6,x7,x8,x9,x10,x11,x12,(.agg #[.int .i64 k,.int .i64 f,.int .i64 a,.int .i64 e]),x14,x15,x16,x17,x18,x19,x20,x21,x22,x23,x24,x25] kAsg kBody W (λen W'=>en = .returned (.bool false)∧Fr (λb=>b=l∨b=B) W W' ∧
      ((((a != 0)||(e != (s.size:Int)))=true∧W'.heap[l]? = some (.loop (kRec fn #[x0,.pointer (some p1),.pointer (some ⟨B,0,none⟩),x3,x4,x5,x6,x7,x8,x9,x10,x11,x12,x13,x14,x15,x16,x17,x18,x19,x20,x21,x22,x23,x24,x25] Dd .done (some (.exit 0))))∧W'.heap[B]? = some (.cells #[.int .i64 0] 3 (0,0))) ∨
       (((a != 0)||(e != (s.size:Int)))=false∧W'.heap[l]? = some (.loop (kRec fn #[x0,.pointer (some p1),.pointer (some ⟨B,0,none⟩),x3,x4,x5,x6,x7,x8,x9,x10,x11,x12,x13,x14,x15,x16,x17,x18,x19,x20,x21,x22,x23,x24,x25] Dd .done (some .ret)))∧W'.heap[B]? = some (.cells #[.int .i64 k] 3 (0,0))))):=by
  refine roundIn_of_wpIn trivial ?_
  unfold kAsg
  gi_wp2_with (rw [Oper.semAt_eq _ _ _ (λc h=>by cases h)];go_simp;try go_bits)
  have hlt:l<W.heap.size:=(ym.1 hl).1
  have hBlt:B<W.heap.size:=(ym.1 hB).1
  have hplt:p1.block<W.heap.size:=by
    refine Nat.lt_of_not_le λh=>?_
    have e0:W.heap[p1.block]? = none:=Array.getElem?_eq_none_iff.2 h
    simp [World.cell?,e0] at h1
  obtain ⟨W1,hW1⟩:∃ W1,W.alloc (.cells #[.int .i64 k,.int .i64 f,.int .i64 a,.int .i64 e] 227)=W1:=⟨_,rfl⟩
  have hold:∀ q,q<W.heap.size→W1.heap[q]? = W.heap[q]?:=λq hq=>by rw [← hW1];exact Below.heap_alloc _ _ q hq
  have hnew:W1.heap[W.heap.size]? = some (.cells #[.int .i64 k,.int .i64 f,.int .i64 a,.int .i64 e] 227):=by rw [← hW1];exact World.alloc_heap_new W _
  have hsz1:W1.heap.size=W.heap.size+1:=by rw [← hW1];simp
  have hfr1:Fr ze W W1:=by rw [← hW1];exact ⟨rfl,rfl,rfl,by simp,λb hb _=>Below.heap_alloc W _ b hb,yn _⟩
  simp only [hW1]
  clear hW1
  have hL1:=(hold l hlt).trans hl
  have hbr:=run_beginRound (P:=Tryz.prog) hL1 rfl
  obtain ⟨W2,hW2⟩:∃ W2,W1.putObj l (.loop { kRec fn #[x0,.pointer (some p1),.pointer (some ⟨B,0,none⟩),x3,x4,x5,x6,x7,x8,x9,x10,x11,x12,x13,x14,x15,x16,x17,x18,x19,x20,x21,x22,x23,x24,x25] Dd .ready none with state:=.busy })=W2:=⟨_,rfl⟩
  have hfr2:Fr (λb=>b=l) W1 W2:=by rw [← hW2];exact ⟨rfl,rfl,rfl,by simp,λb _ hne=>World.putObj_heap_other hne,yn _⟩
  rw [hW2] at hbr
  have hput:∀ q,q≠l→W2.heap[q]? = W1.heap[q]?:=λq hq=>by rw [← hW2];exact World.putObj_heap_other hq
  have hL2:=(World.putObj_heap_same (w:=W1) (o:=.loop { kRec fn #[x0,.pointer (some p1),.pointer (some ⟨B,0,none⟩),x3,x4,x5,x6,x7,x8,x9,x10,x11,x12,x13,x14,x15,x16,x17,x18,x19,x20,x21,x22,x23,x24,x25] Dd .ready none with state:=.busy }) (by omega:l<W1.heap.size))
  rw [hW2] at hL2
  refine ⟨W2,hbr,?_⟩
  clear hW2 hbr
  have hT2:=(hput W.heap.size (by omega)).trans hnew
  have hB2:=((hput B hBl).trans (hold B hBlt)).trans hB
  have hp2:W2.cell? p1=some (.string s):=((World.cell?_of_block (hput p1.block hp)).trans (World.cell?_of_block (hold p1.block hplt))).trans h1
  have c0:W2.cell? ⟨W.heap.size,0,none⟩=some (.int .i64 k):=by rw [zaf hT2];rfl
  have c2:W2.cell? ⟨W.heap.size,2,none⟩=some (.int .i64 a):=by rw [zaf hT2];rfl
  have c3:W2.cell? ⟨W.heap.size,3,none⟩=some (.int .i64 e):=by rw [zaf hT2];rfl
  have cB:W2.cell? ⟨B,0,none⟩=some (.int .i64 0):=by rw [zaf hB2];rfl
  have fB:W2.frozen? ⟨B,0,none⟩=false:=by simp [World.frozen?,hB2]
  unfold kBody
  gi_wp2_with (rw [Oper.semAt_eq _ _ _ (λc h=>by cases h)];go_simp;try go_bits)
  all_goals first
    | (refine ⟨_,_,run_endRound (some (.exit 0)) hL2,rfl,?_,?_,(World.putObj_heap_other hBl).trans hB2⟩
       · refine ((hfr1.mono λ_ _ x=>x.elim).trans (hfr2.mono λ_ _ x=>.inl x)).trans ⟨rfl,rfl,rfl,by simp,λb _ hne=>World.putObj_heap_other (λh=>hne (.inl h)),yn _⟩
       · exact World.putObj_heap_same (ym.1 hL2).1)
    | (have hL3:(W2.setCell ⟨B,0,none⟩ (.int .i64 k)).heap[l]? = some (.loop { kRec fn #[x0,.pointer (some p1),.pointer (some ⟨B,0,none⟩),x3,x4,x5,x6,x7,x8,x9,x10,x11,x12,x13,x14,x15,x16,x17,x18,x19,x20,x21,x22,x23,x24,x25] Dd .ready none with state:=.busy }):=(Below.heap_setCell W2 ⟨B,0,none⟩ _ l (Ne.symm hBl)).trans hL2
       refine ⟨_,_,run_endRound (some .ret) hL3,rfl,?_,?_,(World.putObj_heap_other hBl).trans ?_⟩
       · have f3:Fr (λb=>b=l∨b=B) W2 (W2.setCell ⟨B,0,none⟩ (.int .i64 k)):=⟨rfl,rfl,rfl,by simp,λb _ hne=>Below.heap_setCell W2 ⟨B,0,none⟩ _ b (λh=>hne (.inr h)),yn _⟩
         exact (((hfr1.mono λ_ _ x=>x.elim).trans (hfr2.mono λ_ _ x=>.inl x)).trans f3).trans ⟨rfl,rfl,rfl,by simp,λb _ hne=>World.putObj_heap_other (λh=>hne (.inl h)),yn _⟩
       · exact World.putObj_heap_same (ym.1 hL3).1
       · simp [World.setCell,Array.getElem?_modify,hB2])
def zo9 : Code := .seq (Code.region 7 #[{ dst := none, op := Op.store 3 (Operand.tmp 2) (Operand.const (Value.int IntKind.i64 0)), type := 0, pos := "lexer.go:143", after := #[], guard := none }] false) .ret
theorem kTail (B:Nat) (x0 x1 x3 x4 x5 x6 x7 x8 x9 x10 x11 x12 x13 x14 x15 x16 x17 x18 x19 x20 x21 x22 x23 x24 x25:Value) (df:List Deferred) (W:World) (Qf:Exit→Act→World→Prop) (hB:W.heap[B]? = some (.cells #[.int .i64 0] 3 (0,0)))
  (h:Qf .ret { tmps:=#[x0,x1,.pointer (some ⟨B,0,none⟩),x3,x4,x5,x6,x7,x8,x9,x10,x11,x12,x13,x14,x15,x16,x17,x18,x19,x20,x21,x22,x23,x24,x25],defers:=df } (W.setCell ⟨B,0,none⟩ (.int .i64 0))):zo9.wp Tryz.prog Qf { tmps:=#[x0,x1,.pointer (some ⟨B,0,none⟩),x3,x4,x5,x6,x7,x8,x9,x10,x11,x12,x13,x14,x15,x16,x17,x18,x19,x20,x21,x22,x23,x24,x25],defers:=df } W:=by
 have cB:W.cell? ⟨B,0,none⟩=some (.int .i64 0):=by rw [zaf hB];rfl
 have fB:W.frozen? ⟨B,0,none⟩=false:=by simp [World.frozen?,hB]
 refine (wpIn_wide (n:=0)).1 ?_
 unfold zo9
 gi_wp2
 exact h
theorem zr9 (B:Nat) (tm:Array Value) (hs:tm.size=26) (ht2:tm[2]? = some (.pointer (some ⟨B,0,none⟩))) (df:List Deferred) (W:World) (Qf:Exit→Act→World→Prop) (hB:W.heap[B]? = some (.cells #[.int .i64 0] 3 (0,0)))
  (h:Qf .ret { tmps:=tm,defers:=df } (W.setCell ⟨B,0,none⟩ (.int .i64 0))):zo9.wp Tryz.prog Qf { tmps:=tm,defers:=df } W:=by
 rcases tm with ⟨_ | ⟨x0,_ | ⟨x1,_ | ⟨x2,_ | ⟨x3,_ | ⟨x4,_ | ⟨x5,_ | ⟨x6,_ | ⟨x7,_ | ⟨x8,_ | ⟨x9,_ | ⟨x10,_ | ⟨x11,_ | ⟨x12,_ | ⟨x13,_ | ⟨x14,_ | ⟨x15,_ | ⟨x16,_ | ⟨x17,_ | ⟨x18,_ | ⟨x19,_ | ⟨x20,_ | ⟨x21,_ | ⟨x22,_ | ⟨x23,_ | ⟨x24,_ | ⟨x25,_ | ⟨x26,xs⟩⟩⟩⟩⟩⟩⟩⟩⟩⟩⟩⟩⟩⟩⟩⟩⟩⟩⟩⟩⟩⟩⟩⟩⟩⟩⟩⟩
 all_goals first | (exfalso;simp at hs;done) | skip
 all_goals first | (exfalso;simp at hs;omega) | skip
 simp at ht2
 subst ht2
 exact kTail B x0 x1 x3 x4 x5 x6 x7 x8 x9 x10 x11 x12 x13 x14 x15 x16 x17 x18 x19 x20 x21 x22 x23 x24 x25 df W Qf hB h
theorem Fr.past {w W0 W:World} {S:Nat→Prop} (h:Fr ze w W0) (k:Fr S W0 W) (hS:∀ b,S b→w.heap.size≤b):Fr ze w W:=
 ⟨k.os.trans h.os,k.tape.trans h.tape,k.output.trans h.output,ub h.size k.size,λb hb _=>(k.block b (yJ hb h.size) λhs=>by have:=hS b hs;omega).trans (h.block b hb λx=>x.elim),ub h.drawn k.drawn⟩
theorem zqA {A:Nat→Prop} {w W:World} {tm:Array Value} {B Dd:Nat} {k:Int} (hs:tm.size=26) (ht2:tm[2]? = some (.pointer (some ⟨B,0,none⟩))) (hB:W.heap[B]? = some (.cells #[.int .i64 k] 3 (0,0))) (hD:W.heap[Dd]? = some (.deferred (some []))) (hBD:B≠Dd)
  (hf:Fr ze w W) (hDw:w.heap.size≤Dd):LeavesInM Fence.wide 0 Tryz.prog Tryz.f208 tm (zlO A w (.int k)) [{ target:=.collected Dd,args:=#[] }] .returning W:=by
 refine ⟨by simp,.inl ⟨_,_,rfl,run_takeDeferred hD,?_⟩⟩
 have hB2:(W.putObj Dd (.deferred none)).heap[B]? = some (.cells #[.int .i64 k] 3 (0,0)):=(World.putObj_heap_other hBD).trans hB
 have hl:=zcL (P:=Tryz.prog) (A:=λ_=>False) (w:=W.putObj Dd (.deferred none)) (t:=3) (k:=none) Y3 (b:=B) (off:=0) (d:=.int k) (u:=.int .i64 k) (by simp only [D.rep]) rfl (λq hq=>by
  have hq0:q=0:=by simp [Value.cells] at hq;omega
  subst hq0
  rw [zaf hB2];simp [Value.cells])
 simp only [Instr.loadAt,Instr.sureAddr,Sem.run_bind,Sem.run_pure,Result.andThen_ok] at hl
 refine ⟨.int .i64 k,?_,_,rfl,?_,by simp only [D.rep]⟩
 ·have hp:tm.getD 2 undef = .pointer (some ⟨B,0,none⟩):=by
   have h2:(2:Nat)<tm.size:=by omega
   rw [y6 h2] at ht2
   simpa [Array.getD,h2] using ht2
  have hr:(zeE tm (.cell 2 3)).run Tryz.prog (W.putObj Dd (.deferred none)) = .ok (.int .i64 k) (W.putObj Dd (.deferred none)):=by
   simp only [zeE,Sem.run_bind,hp,asAddr,Sem.run_pure,Result.andThen_ok,hl]
  rw [zdK]
  have hm:((Tryz.f208).results.mapM (zeE tm)).run Tryz.prog (W.putObj Dd (.deferred none)) = .ok #[.int .i64 k] (W.putObj Dd (.deferred none)):=by
   show (#[ResultVar.cell 2 3].mapM (zeE tm)).run Tryz.prog _=_
   rw [List.mapM_toArray]
   simp [Sem.run_map,hr]
  simp only [Sem.run_bind,hm,Result.andThen_ok,Sem.run_pure]
  rfl
 ·exact hf.past (S:=λb=>b=Dd) ⟨rfl,rfl,rfl,by simp,λb _ hne=>World.putObj_heap_other hne,yn _⟩ (λb hb=>by rw [hb];exact hDw)
theorem zqW (fn:FuncId) (l Dd B:Nat) (p1:Addr) (s:ByteArray) (k f a e:Int) (tm:Array Value) (hs:tm.size=26) (ht1:tm[1]? = some (.pointer (some p1))) (ht2:tm[2]? = some (.pointer (some ⟨B,0,none⟩))) (W:World) (hBl:B≠l) (hp:p1.block≠l)
    (hl:W.heap[l]? = some (.loop (kRec fn tm Dd .ready none))) (h1:W.cell? p1=some (.string s)) (hB:W.heap[B]? = some (.cells #[.int .i64 0] 3 (0,0))) :
    RoundIn Fence.wide 0 Tryz.prog l fn (tm.setIfInBounds 13 (.agg #[.int .i64 k,.int .i64 f,.int .i64 a,.int .i64 e])) kAsg kBody W (λen W'=>en = .returned (.bool false)∧Fr (λb=>b=l∨b=B) W W' ∧
      ((((a != 0)||(e != (s.size:Int)))=true∧W'.heap[l]? = some (.loop (kRec fn tm Dd .done (some (.exit 0))))∧W'.heap[B]? = some (.cells #[.int .i64 0] 3 (0,0))) ∨
       (((a != 0)||(e != (s.size:Int)))=false∧W'.heap[l]? = some (.loop (kRec fn tm Dd .done (some .ret)))∧W'.heap[B]? = some (.cells #[.int .i64 k] 3 (0,0))))):=by
  rcases tm with ⟨_ | ⟨x0,_ | ⟨x1,_ | ⟨x2,_ | ⟨x3,_ | ⟨x4,_ | ⟨x5,_ | ⟨x6,_ | ⟨x7,_ | ⟨x8,_ | ⟨x9,_ | ⟨x10,_ | ⟨x11,_ | ⟨x12,_ | ⟨x13,_ | ⟨x14,_ | ⟨x15,_ | ⟨x16,_ | ⟨x17,_ | ⟨x18,_ | ⟨x19,_ | ⟨x20,_ | ⟨x21,_ | ⟨x22,_ | ⟨x23,_ | ⟨x24,_ | ⟨x25,_ | ⟨x26,xs⟩⟩⟩⟩⟩⟩⟩⟩⟩⟩⟩⟩⟩⟩⟩⟩⟩⟩⟩⟩⟩⟩⟩⟩⟩⟩⟩⟩
  all_goals first | (exfalso;simp at hs;done) | skip
  all_goals first | (exfalso;simp at hs;omega) | skip
  simp at ht1 ht2
  subst ht1;subst ht2
  exact zr8 fn l Dd B p1 s k f a e x0 x3 x4 x5 x6 x7 x8 x9 x10 x11 x12 x13 x14 x15 x16 x17 x18 x19 x20 x21 x22 x23 x24 x25 W hBl hp hl h1 hB
theorem hK276:callable Tryz.prog 276=true:=by kernel_rfl
theorem hK242:callable Tryz.prog 242=true:=by kernel_rfl
theorem hK277:callable Tryz.prog 277=true:=by kernel_rfl
theorem hZ201:zbc Tryz.prog 201 none=true:=by kernel_rfl
abbrev KE:List UInt8→Value:=λl:List UInt8=>Value.string ⟨l.toArray⟩
theorem zjY (n:Nat) (t0:List UInt8) (kw:GMap (List UInt8) Bool) (h:zbH n=some kw):Pure Tryz.prog 242 [.str t0] (.fn (.func 277) [] [.ref (.str t0),.ref (GMap.dat KE D.bool kw)]):=by
 refine Pure.of_tri Tryz.func242 rfl (by rw [Tryz.ntmps242];simp) λA w=>?_
 rw [Tryz.ntmps242]
 refine .seq ?_
 refine .region ?_
 refine .op rfl rfl (.box rfl rfl) ?_
 refine .op rfl rfl (.assign rfl rfl) ?_
 refine .nil ?_
 refine .seq ?_
 refine .region ?_
 refine .op rfl rfl (.call rfl hK276 rfl (zil _ _ h)) ?_
 refine .allocStore rfl rfl rfl rfl rfl rfl rfl rfl (by simp) rfl rfl hZ201 ?_
 refine .nil ?_
 refine .seq ?_
 refine .region ?_
 refine .op rfl rfl (.makeFunc rfl rfl) ?_
 refine .op rfl rfl (.assign rfl rfl) ?_
 refine .nil ?_
 refine .ret ?_
 exact zb9 rfl (.d _)
theorem zlH (n:Nat) (t0:List UInt8) (r:Int) (h:zen n t0=some r):Pure Tryz.prog 208 [.str t0] (.int r):=by
  unfold zen at h
  refine Pure.of_triM Tryz.func208 rfl (by rw [Tryz.ntmps208];simp) λA w=>?_
  rw [Tryz.ntmps208]
  refine .seq ?_
  refine .region ?_
  refine .op rfl rfl (.box rfl rfl) ?_
  refine .allocZ rfl rfl rfl rfl (.val Zv3) rfl ?_
  refine .nil ?_
  refine .seq ?_
  refine .seq ?_
  refine .plain 7 rfl ?_
  refine .op rfl rfl rfl rfl (.load rfl rfl Y9 rfl) ?_
  refine .op rfl rfl rfl rfl (.str_eql rfl rfl rfl) ?_
  refine .op rfl rfl rfl rfl (.move rfl rfl) ?_
  refine .jOr 3 (b2:=decide (4096<(t0.length:Int))) rfl rfl rfl rfl (.inl rfl) (λ_ _ _ h1=>(by cases h1)) rfl rfl (λhb_1=>?_) ?_
  · refine .gop rfl rfl rfl rfl rfl rfl (.load rfl rfl Y9 rfl) ?_
    refine .gop rfl rfl rfl rfl rfl rfl (.len_str rfl U9 rfl) ?_
    refine .gop rfl rfl rfl rfl rfl rfl (.gtr rfl rfl rfl) ?_
    exact .nil rfl
  refine .nil ?_
  refine .nil ?_
  refine .condS rfl h (λh=>?_) (λh=>?_)
  · refine .seq ?_
    refine .region ?_
    refine .store rfl rfl rfl rfl rfl rfl (.ofD rfl) C3 rfl (yd rfl) ?_
    refine .nil ?_
    refine .ret ?_
    cases h
    exact zqh rfl rfl Y3 (.d _)
  refine .skip ?_
  obtain ⟨kw,hkw,h⟩:=bindS h
  obtain ⟨tok,htok,h⟩:=bindS h
  refine Tri.le (t:=⟨[(1,.d (.ref (.str t0))),(2,.loc 0 0)],[.box 3 [.d (.int 0)]]⟩) ⟨rfl,rfl,rfl,trivial⟩ ?_
  refine ⟨λbs a w' hR=>?_⟩
  have hR0:R ⟨A,ze,w,26,λ_ _=>False,[],0,[]⟩ bs ⟨[(1,.d (.ref (.str t0))),(2,.loc 0 0)],[.box 3 [.d (.int 0)]]⟩ a w':=hR.noEsc
  refine wp_seq (wp_seq (Code.wp_mono ?_ (Tri.run (C:=⟨A,ze,w,26,λ_ _=>False,[],0,[]⟩) (Q:=λe s=>e = .normal∧look 12 s.T=some (.d (.fn (.func 277) [] [.ref (.str t0),.ref (GMap.dat KE D.bool kw)]))∧look 1 s.T=some (.d (.ref (.str t0)))∧look 2 s.T=some (.loc 0 0)∧s.H[0]? = some (.box 3 [.d (.int 0)])) ?_ bs a w' hR0)))
  case refine_2=>
    refine .region ?_
    refine .op rfl rfl (.load rfl rfl Y9 rfl) ?_
    refine .op rfl rfl (.call rfl hK242 rfl (zjY _ _ _ hkw)) ?_
    refine .nil ?_
    exact ⟨rfl,rfl,rfl,rfl,rfl⟩
  rintro e a3 w3 (⟨bs3,s3,⟨rfl,g12,g1,g2,gH⟩,hR3⟩ | ⟨_,hE⟩)
  case inr=>exact hE.elim
  simp only [Exit.then]
  have e12:=hR3.ev (x:=.tmp 12) (by simpa [ev] using g12)
  have e1:=hR3.ev (x:=.tmp 1) (by simpa [ev] using g1)
  have e2:=hR3.ev (x:=.tmp 2) (by simpa [ev] using g2)
  have hbox:=hR3.blk 0 _ gH
  simp only [V.rep,gH] at e2
  obtain ⟨B,hB0,e2⟩:=e2
  simp only [Blk.rep] at hbox
  obtain ⟨B',vs,hB1,hBh,hvs⟩:=hbox
  obtain rfl:B=B':=by rw [hB0] at hB1;simpa using hB1
  have hvs:vs = #[.int .i64 0]:=by
    simp only [V.reps,V.rep,D.rep] at hvs
    obtain ⟨v,vs',hv,rfl,rfl⟩:=hvs
    exact Array.toList_inj.1 hv
  subst hvs
  simp only [V.rep] at e12 e1
  simp only [D.rep] at e1
  obtain ⟨pb,po,pu,e1,hpA,hplt,hpu,hpc⟩:=e1
  subst hpu
  have hstr:w3.cell? ⟨pb,po,none⟩=some (.string ⟨t0.toArray⟩):=by have:=hpc 0 (by simp [Value.cells]);simpa [Value.cells] using this
  have e12':=e12
  simp only [D.rep] at e12
  obtain ⟨vs,us,e12,hv0,hus⟩:=e12
  simp only [D.reps] at hv0
  have hv0:vs = #[]:=by simpa using hv0
  subst hv0
  have hsz:a3.tmps.size=26:=hR3.size
  have hdf:a3.defers=[]:=hR3.defers
  have hown:=hR3.own
  have hBlt:B<w3.heap.size:=(ym.1 hBh).1
  refine (wpIn_wide (n:=0)).1 (wpIn_block (wpIn_rangeFunc ?_))
  intro fn _
  obtain ⟨w4,hw4⟩:∃ w4,(w3.alloc (.deferred (some []))).alloc (.loop (kRec fn a3.tmps w3.heap.size .ready none))=w4:=⟨_,rfl⟩
  have hold:∀ q,q<w3.heap.size→w4.heap[q]? = w3.heap[q]?:=λq hq=>by rw [← hw4];exact (Below.heap_alloc _ _ q (by simp;omega)).trans (Below.heap_alloc _ _ q hq)
  have hL4:w4.heap[w3.heap.size+1]? = some (.loop (kRec fn a3.tmps w3.heap.size .ready none)):=by rw [← hw4];have:=World.alloc_heap_new (w3.alloc (.deferred (some []))) (.loop (kRec fn a3.tmps w3.heap.size .ready none));rwa [World.size_alloc] at this
  have hD4:w4.heap[w3.heap.size]? = some (.deferred (some [])):=by rw [← hw4];exact (Below.heap_alloc _ _ _ (by simp)).trans (World.alloc_heap_new w3 _)
  have hs4:w4.heap.size=w3.heap.size+2:=by rw [← hw4];simp
  have hfr4:Fr ze w3 w4:=by
    rw [← hw4]
    exact (⟨rfl,rfl,rfl,by simp,λb hb _=>Below.heap_alloc _ _ b hb,yn _⟩:Fr ze w3 (w3.alloc (.deferred (some [])))).trans ⟨rfl,rfl,rfl,by simp,λb hb _=>Below.heap_alloc _ _ b hb,yn _⟩
  refine ⟨w3.heap.size+1,[{ target:=.collected w3.heap.size,args:=#[] }],w4,{ target:=.fn (.func 277) us,args:=#[.func (.yield (w3.heap.size+1)) #[] #[]] },w4,277,#[.func (.yield (w3.heap.size+1)) #[] #[]]++us,w4,?_,?_,λ_ _=>trivial,?_,λh=>by simp [Fence.wide] at h,?_⟩
  · rw [← hw4];exact run_enterLoop_outer _ _ _ _ _
  · have ek:∀ v,a3.eval (.const v)=v:=λ_=>rfl
    simp [resolve,e12,Deferred.ofValue,ek]
  · simp only [invoke];exact zb1 hK277 _ w4
  obtain ⟨A',hA'⟩:∃ A':Nat→Prop,A'=λb=>Own A bs3 b∨b=w3.heap.size∨b=w3.heap.size+1:=⟨_,rfl⟩
  have hAlt:∀ b,A' b→b<w4.heap.size:=λb hb=>by
    subst hA'
    rcases hb with (hb | hb) | rfl | rfl
    · have:=hown.foreign b hb;omega
    · have:=hown.lt b hb;omega
    · omega
    · omega
  have hAin:∀ b,b<w3.heap.size→A' b→Own A bs3 b:=λb hb hb'=>by
    subst hA'
    rcases hb' with hb' | rfl | rfl
    · exact hb'
    · omega
    · omega
  have hG4:zdW A' w4:=hown.glob.fr hfr4 (λ_ x=>x.elim) hAin
  have hargs:D.reps A' w4 [.fn (.yield (w3.heap.size+1)) [] [],.ref (.str t0),.ref (GMap.dat KE D.bool kw)] ((#[Value.func (.yield (w3.heap.size+1)) #[] #[]]:Array Value)++us).toList:=by
    have:=D.reps_fr hfr4 (λ_ x=>x.elim) hAin _ _ hus
    simp only [Array.toList_append,ud,y9,D.reps,D.rep] at this ⊢
    exact ⟨_,_,rfl,⟨#[],#[],rfl,rfl,rfl⟩,this⟩
  have hstr4:w4.cell? ⟨pb,po,none⟩=some (.string ⟨t0.toArray⟩):=by rw [World.cell?_of_block (hold pb hplt)];exact hstr
  have hB4:w4.heap[B]? = some (.cells #[.int .i64 0] 3 (0,0)):=(hold B hBlt).trans hBh
  have ht1:a3.tmps[1]? = some (.pointer (some ⟨pb,po,none⟩)):=by
    have:a3.tmps.getD 1 undef = .pointer (some ⟨pb,po,none⟩):=e1
    simpa [Array.getD,hsz] using this
  have ht2:a3.tmps[2]? = some (.pointer (some ⟨B,0,none⟩)):=by
    have:a3.tmps.getD 2 undef = .pointer (some ⟨B,0,none⟩):=e2
    simpa [Array.getD,hsz] using this
  obtain ⟨Post,hPost⟩:∃ Post:World→Prop,Post=(λW'=>∃ W0,Fr ze w4 W0∧Fr (λb=>b=w3.heap.size+1∨b=B) W0 W' ∧
      ((((tok.at_ != 0)||(tok.end_ != (t0.length:Int)))=true∧W'.heap[w3.heap.size+1]? = some (.loop (kRec fn a3.tmps w3.heap.size .done (some (.exit 0))))∧W'.heap[B]? = some (.cells #[.int .i64 0] 3 (0,0))) ∨
       (((tok.at_ != 0)||(tok.end_ != (t0.length:Int)))=false∧W'.heap[w3.heap.size+1]? = some (.loop (kRec fn a3.tmps w3.heap.size .done (some .ret)))∧W'.heap[B]? = some (.cells #[.int .i64 tok.kind] 3 (0,0))))):=⟨_,rfl⟩
  refine callsIn_wide.2 ((zlq (A:=A') (w:=w4) (Post:=Post) Tryz.func277 rfl rfl (by rw [Tryz.ntmps277];exact yd rfl) hAlt hG4 hargs ?_).mono ?_)
  · have htri:=zhD n t0 kw (.fn (.yield (w3.heap.size+1)) [] []) ⟨A',ze,w4,93,λa W'=>a.defers=[]∧Post W',[],0,[]⟩ rfl rfl (λ_ _=>False) tok htok (λQ T H j q0 q5 qj=>zqk (Post:=Post) (w3.heap.size+1) tok ?_ Q T H j q0 q5 qj)
    · rw [zhu Tryz.func277 rfl] at htri
      exact htri
    · intro W v hf hv
      simp only [Token.enc,D.rep,D.reps] at hv
      obtain ⟨vs,rfl,v1,l1,hvs,rfl,v2,l2,rfl,rfl,v3,l3,rfl,rfl,v4,l4,rfl,rfl,rfl⟩:=hv
      have hvs:vs = #[.int .i64 tok.kind,.int .i64 tok.from_,.int .i64 tok.at_,.int .i64 tok.end_]:=Array.toList_inj.1 (by simpa using hvs)
      subst hvs
      have hLW:W.heap[w3.heap.size+1]? = some (.loop (kRec fn a3.tmps w3.heap.size .ready none)):=(hf.block _ (by omega) (λx=>x.elim)).trans hL4
      refine ⟨fn,a3.tmps.setIfInBounds 13 (.agg #[.int .i64 tok.kind,.int .i64 tok.from_,.int .i64 tok.at_,.int .i64 tok.end_]),kAsg,kBody,?_,(zqW fn (w3.heap.size+1) w3.heap.size B ⟨pb,po,none⟩ ⟨t0.toArray⟩ tok.kind tok.from_ tok.at_ tok.end_ a3.tmps hsz ht1 ht2 W (by omega) (by simp only;omega) hLW ?_ ?_).mono ?_⟩
      · have:=run_yield (P:=Tryz.prog) (args:=#[.agg #[.int .i64 tok.kind,.int .i64 tok.from_,.int .i64 tok.at_,.int .i64 tok.end_]]) hLW rfl
        simpa [kRec] using this
      · rw [World.cell?_of_block (hf.block pb (by omega) (λx=>x.elim))];exact hstr4
      · exact (hf.block B (by omega) (λx=>x.elim)).trans hB4
      · rintro e W' ⟨rfl,hf2,hcase⟩
        exact ⟨rfl,by rw [hPost];exact ⟨W,hf,hf2,hcase⟩⟩
  · rintro e W ⟨⟨u,rfl⟩,hP⟩
    rw [hPost] at hP
    obtain ⟨W0,f1,f2,hcase⟩:=hP
    have hs0:w4.heap.size≤W0.heap.size:=f1.size
    have hD0:W0.heap[w3.heap.size]? = some (.deferred (some [])):=(f1.block w3.heap.size (by omega) (λx=>x.elim)).trans hD4
    have hDW:W.heap[w3.heap.size]? = some (.deferred (some [])):=(f2.block w3.heap.size (by omega) (by rintro (h | h) <;> omega)).trans hD0
    have hww:w.heap.size≤w3.heap.size:=hR3.fr.size
    have hBw:w.heap.size≤B:=(hR3.new B (yt hB0)).resolve_left (λh=>h)
    have hfr3:Fr ze w w3:=hR3.fr
    have hfW:Fr ze w W:=((hfr3.trans hfr4).trans f1).past f2 (by rintro b (rfl | rfl) <;> omega)
    rcases hcase with ⟨hc,hL,hBW⟩ | ⟨hc,hL,hBW⟩
    · rw [if_pos hc] at h
      cases h
      refine ⟨some (.exit 0),_,run_endLoop hL (by simp [kRec]),?_⟩
      have hB5:(W.putObj (w3.heap.size+1) (.loop { kRec fn a3.tmps w3.heap.size .done (some (.exit 0)) with state:=.exhausted })).heap[B]? = some (.cells #[.int .i64 0] 3 (0,0)):=(World.putObj_heap_other (by omega)).trans hBW
      have hD5:(W.putObj (w3.heap.size+1) (.loop { kRec fn a3.tmps w3.heap.size .done (some (.exit 0)) with state:=.exhausted })).heap[w3.heap.size]? = some (.deferred (some [])):=(World.putObj_heap_other (by omega)).trans hDW
      have hf5:Fr ze w (W.putObj (w3.heap.size+1) (.loop { kRec fn a3.tmps w3.heap.size .done (some (.exit 0)) with state:=.exhausted })):=hfW.past (S:=λb=>b=w3.heap.size+1) ⟨rfl,rfl,rfl,by simp,λb _ hne=>World.putObj_heap_other hne,yn _⟩ (by rintro b rfl;omega)
      generalize W.putObj (w3.heap.size+1) (.loop { kRec fn a3.tmps w3.heap.size .done (some (.exit 0)) with state:=.exhausted })=W5 at hB5 hD5 hf5 ⊢
      refine wpIn_exit ?_
      simp only [Exit.inBlock,if_true,Exit.then]
      have hB6:(W5.setCell ⟨B,0,none⟩ (.int .i64 0)).heap[B]? = some (.cells #[.int .i64 0] 3 (0,0)):=by simp [World.setCell,Array.getElem?_modify,hB5]
      have hD6:(W5.setCell ⟨B,0,none⟩ (.int .i64 0)).heap[w3.heap.size]? = some (.deferred (some [])):=(Below.heap_setCell W5 ⟨B,0,none⟩ _ _ (by simp only;omega)).trans hD5
      have hf6:Fr ze w (W5.setCell ⟨B,0,none⟩ (.int .i64 0)):=by
        have k6:Fr (λb=>b=B) W5 (W5.setCell ⟨B,0,none⟩ (.int .i64 0)):=⟨rfl,rfl,rfl,by simp,λb _ hne=>Below.heap_setCell W5 ⟨B,0,none⟩ _ b hne,yn _⟩
        exact hf5.past k6 (by rintro b rfl;exact hBw)
      exact zr9 B a3.tmps hsz ht2 _ W5 _ hB5 (.inr ⟨rfl,by rw [hdf];exact zqA hsz ht2 hB6 hD6 (by omega) hf6 hww⟩)
    · rw [if_neg (by rw [hc];simp)] at h
      cases h
      refine ⟨some .ret,_,run_endLoop hL (by simp [kRec]),?_⟩
      have hB5:(W.putObj (w3.heap.size+1) (.loop { kRec fn a3.tmps w3.heap.size .done (some .ret) with state:=.exhausted })).heap[B]? = some (.cells #[.int .i64 tok.kind] 3 (0,0)):=(World.putObj_heap_other (by omega)).trans hBW
      have hD5:(W.putObj (w3.heap.size+1) (.loop { kRec fn a3.tmps w3.heap.size .done (some .ret) with state:=.exhausted })).heap[w3.heap.size]? = some (.deferred (some [])):=(World.putObj_heap_other (by omega)).trans hDW
      have hf5:Fr ze w (W.putObj (w3.heap.size+1) (.loop { kRec fn a3.tmps w3.heap.size .done (some .ret) with state:=.exhausted })):=hfW.past (S:=λb=>b=w3.heap.size+1) ⟨rfl,rfl,rfl,by simp,λb _ hne=>World.putObj_heap_other hne,yn _⟩ (by rintro b rfl;omega)
      generalize W.putObj (w3.heap.size+1) (.loop { kRec fn a3.tmps w3.heap.size .done (some .ret) with state:=.exhausted })=W5 at hB5 hD5 hf5 ⊢
      refine wpIn_ret ?_
      simp only [Exit.inBlock,Exit.then]
      exact .inr ⟨rfl,by rw [hdf];exact zqA hsz ht2 hB5 hD5 (by omega) hf5 hww⟩
end
end Go.Proofs.YtehefbidnkfciaaGreatDoor
