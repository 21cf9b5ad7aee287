/- Part of the proof of one law of the seat. -/
import Derived.Test.YtbnhmfnagdgcmaaGreatDoorTl02
import Derived.Deep.Slices
import Derived.WideKeyArgs
import Derived.OpenShut
import Derived.Test.YtbnhmfnagdgcmaaGreatDoorRows
import Derived.Lib.LaidTab
import Derived.Lib.LaidU8
import Derived.Stop.LaidErr
import Derived.MakeChecks
import Derived.Shelf.Vars
import Derived.Test.YtbnhmfnagdgcmaaGreatDoorProg
import Derived.KernelRfl
import Derived.OrdersIn
import Derived.RangeFuncIn
import Derived.RangeFuncRecord
import Derived.RangeFuncCalls
import Derived.RangeFuncLeaves
import Derived.TacticsIn
import Derived.Shelf.SlSortCmp.Whole1
import Derived.Shelf.SlSortCmp.NoneTotal
import Derived.Lib.SplitLaws
import Derived.Lib.ItoaNum
import Derived.Lib.AtoiAll
import Derived.Lib.Join
import Derived.Lib.Index
set_option linter.unusedVariables false
set_option linter.unusedSectionVars false
set_option linter.unusedSimpArgs false
set_option maxHeartbeats 4000000
namespace Go.Proofs.YtbnhmfnagdgcmaaGreatDoor
open Go Go.RowKit
abbrev uG:=@_root_.Nat.pow_succ
section
def Noneof:Nat→Prop:=λ_=>False
structure Dec (P:Program) (t:TypeId) (α:Type) where
 k:Nat
 pos:0<k
 cells:P.cellsOf t=k
 flat:α→List D
 el:α→D
 good:α→Prop
 opens:∀ {H:Type} {enc:TypeId×Value→H} {w:World} {sp:Nat→Bool} {held:Bool} {fuel:Nat} {cs:List Value} {x:DataW H×List MemPlace},DataW.trod enc P w 0 sp held fuel t cs=some x→∃ a,D.reps Noneof w (flat a) cs∧good a
 elOK:∀ {w:World} {a:α} {cs:List Value},D.reps Noneof w (flat a) cs→∃ u,D.rep Noneof w (el a) u∧u.cells.toList=cs
 arg:∀ {w:World} {r:Reach} {base:Nat} {v:Value} {a:α},Value.okWide P w r base t v→D.reps Noneof w (flat a) v.cells.toList→D.rep Noneof w (el a) v
theorem zgU {A w d v} (h:D.rep A w d v):D.reps A w [d] [v]:=by
 simp only [D.reps];exact ⟨v,[],rfl,h,rfl⟩
theorem zb6 {A w d cs} (h:D.reps A w [d] cs):∃ v,cs=[v]∧D.rep A w d v:=by
 simp only [D.reps] at h;obtain ⟨v,vs,rfl,h1,rfl⟩:=h;exact ⟨v,rfl,h1⟩
theorem reps_two {A w}:∀ {xs ys:List D} {vs us:List Value},D.reps A w xs vs→D.reps A w ys us→D.reps A w (xs++ys) (vs++us)
 | [],ys,vs,us,h,k=>by simp only [D.reps] at h;subst h;exact k
 | x::xs,ys,vs,us,h,k=>by
  simp only [D.reps] at h;obtain ⟨v,vs',rfl,h1,h2⟩:=h;simp only [y7,D.reps];exact ⟨v,vs'++us,rfl,h1,reps_two h2 k⟩
variable {P:Program}
theorem i64_range {n:Int} (h:(Lit.int .i64 n).wf=true) : -9223372036854775808≤n∧n≤9223372036854775807:=by
 have e1:IntKind.min .i64 = -9223372036854775808:=by decide
 have e2:IntKind.max .i64=9223372036854775807:=by decide
 simp only [Lit.wf,yc,yd,e1,e2] at h;exact h
def decInt {t:TypeId} (ht:P.underlying t=some (.int .i64)) (hc:P.cellsOf t=1):Dec P t Int where
 k:=1
 pos:=by decide
 cells:=hc
 flat n:=[.int n]
 el n:=.int n
 good n:=-9223372036854775808≤n∧n≤9223372036854775807
 opens h:=by
  obtain ⟨n,rfl,-,hr⟩:=DataW.trod_int ht h;exact ⟨n,zgU (by simp only [D.rep]),i64_range hr⟩
 elOK {w a cs} h:=by
  obtain ⟨v,rfl,h1⟩:=zb6 h;simp only [D.rep] at h1;subst h1;exact ⟨.int .i64 a,by simp only [D.rep],rfl⟩
 arg hv h:=by
  obtain ⟨n,rfl⟩:=WideShapes.okWide_int ht hv;obtain ⟨v,hv',h1⟩:=zb6 h;obtain rfl:=List.head_eq_of_cons_eq hv';exact h1
def decBool {t:TypeId} (ht:P.underlying t=some .bool) (hc:P.cellsOf t=1):Dec P t Bool where
 k:=1
 pos:=by decide
 cells:=hc
 flat n:=[.bool n]
 el n:=.bool n
 good _:=True
 opens h:=by
  obtain ⟨n,rfl,-⟩:=DataW.trod_bool ht h;exact ⟨n,zgU (by simp only [D.rep]),trivial⟩
 elOK {w a cs} h:=by
  obtain ⟨v,rfl,h1⟩:=zb6 h;simp only [D.rep] at h1;subst h1;exact ⟨.bool a,by simp only [D.rep],rfl⟩
 arg hv h:=by
  obtain ⟨n,rfl⟩:=WideShapes.okWide_bool ht hv;obtain ⟨v,hv',h1⟩:=zb6 h;obtain rfl:=List.head_eq_of_cons_eq hv';exact h1
def decStr {t:TypeId} (ht:P.underlying t=some .string) (hc:P.cellsOf t=1):Dec P t (List UInt8) where
 k:=1
 pos:=by decide
 cells:=hc
 flat s:=[.str s]
 el s:=.str s
 good _:=True
 opens h:=by
  obtain ⟨s,rfl,-,-⟩:=DataW.trod_string ht h;exact ⟨s.data.toList,zgU (by simp only [D.rep]),trivial⟩
 elOK {w a cs} h:=by
  obtain ⟨v,rfl,h1⟩:=zb6 h;simp only [D.rep] at h1;subst h1;exact ⟨.string ⟨a.toArray⟩,by simp only [D.rep],rfl⟩
 arg hv h:=by
  obtain ⟨n,rfl⟩:=WideShapes.okWide_string ht hv;obtain ⟨v,hv',h1⟩:=zb6 h;obtain rfl:=List.head_eq_of_cons_eq hv';exact h1
theorem row_of_reads {α:Type} {t e:TypeId} (d:Dec P e α) {H:Type} {enc:TypeId×Value→H} {w:World} {sp:Nat→Bool} {held:Bool} {n:Nat} {b off:Nat}:∀ (m:Nat) (DD:Nat→DataW H) (Pl:Nat→List MemPlace) (o:Nat),
  (∀ i,i<m→∃ cs',w.cells? 0 ((⟨b,off,none⟩:Addr).add ((o+i)*P.cellsOf e)) (P.cellsOf e)=some cs'∧DataW.trod enc P w 0 sp held n e cs'=some (DD i,Pl i))→∃ l:List α,(l.length=m∧∀ x∈l,d.good x)∧D.row Noneof w b d.k (l.map d.el) (off+o*d.k)
 | 0,_,_,_,_=>⟨[],⟨rfl,by simp⟩,by simp only [List.map_nil,D.row]⟩
 | m+1,DD,Pl,o,h=>by
  obtain ⟨cs',h1,h2⟩:=h 0 (by omega);obtain ⟨a,ha,hg⟩:=d.opens h2;obtain ⟨u,hu1,hu2⟩:=d.elOK ha;obtain ⟨l,⟨hl1,hlg⟩,hl2⟩:=row_of_reads (t:=t) d m (λi=>DD (i+1)) (λi=>Pl (i+1)) (o+1) (λi hi=>by
   have:=h (i+1) (by omega)
   rwa [show o+(i+1)=o+1+i by omega] at this)
  refine ⟨a::l,⟨by simp [hl1],λx hx=>by
   rcases yI.1 hx with rfl | hx
   ·exact hg
   ·exact hlg x hx⟩,?_⟩
  simp only [yM,D.row];obtain ⟨-,c2,c3⟩:=World.cells?_some h1;have hsz:u.cells.size=d.k:=by rw [← yC,hu2,c2,d.cells]
  refine ⟨⟨u,hu1,λj hj=>?_,hsz⟩,?_⟩
  ·have:=c3 j (by rw [d.cells];omega);rw [uu,d.cells,Deep.add_add] at this;have hadd:(⟨b,off,none⟩:Addr).add (o*d.k+j)=⟨b,off+o*d.k+j,none⟩:=by
    unfold Addr.add;by_cases h0:o*d.k+j=0
    ·rw [if_pos h0];congr 1;omega
    ·rw [if_neg h0];show (⟨b,off+(o*d.k+j),none⟩:Addr)=_;congr 1;omega
   rw [hadd] at this;rw [this,← hu2,yY]
  ·rw [show off+(o+1)*d.k=off+o*d.k+d.k by rw [uj];omega] at hl2;exact hl2
def decSl {α:Type} {t e:TypeId} (d:Dec P e α) (ht:P.underlying t=some (.slice e)) (hc:P.cellsOf t=1):Dec P t (List α) where
 k:=1
 pos:=by decide
 cells:=hc
 flat l:=[.sl d.k (l.map d.el)]
 el l:=.sl d.k (l.map d.el)
 good l:=∀ x∈l,d.good x
 opens {H enc w sp held fuel cs x} h:=by
  rcases Deep.open_slice ht h with ⟨rfl,-⟩ | ⟨a,len,cap,m,n,DD,Pl,rfl,-,hl,-,hm,-,hx⟩
  ·exact ⟨[],zgU (by simp only [List.map_nil,D.rep,uz];exact ⟨none,0,rfl,yn _,.inl trivial⟩),by simp⟩
  ·have hlm:len≤m:=by rw [hm];split <;> omega
   cases len with
   | zero=>exact ⟨[],zgU (by simp only [List.map_nil,D.rep,uz];exact ⟨_,cap,rfl,yp _,.inl trivial⟩),by simp⟩
   | succ len=>
    obtain ⟨cs',h1,h2⟩:=hx 0 (by omega);obtain ⟨-,c2,c3⟩:=World.cells?_some h1;have hp:=d.pos;have h0:=c3 0 (by rw [d.cells];omega);rw [Nat.zero_mul] at h0;have ha:(a.add 0).add 0=a:=by simp [Addr.add]
    rw [ha] at h0;have hsome:∃ v,w.cell? a=some v:=by
     rw [h0];exact ⟨_,yA (show 0<cs'.length by rw [c2,d.cells];omega)⟩
    obtain ⟨v,hv⟩:=hsome;obtain ⟨b,off,sp'⟩:=a;have hsp:sp'=none:=by
     unfold World.cell? at hv;simp only [] at hv;split at hv
     ·cases sp' with
      | none=>rfl
      | some z=>simp at hv
     ·cases hv
    subst hsp;have hb:b<w.heap.size:=by
     unfold World.cell? at hv;simp only [] at hv;split at hv
     ·rename_i hh;exact (ym.1 hh).1
     ·cases hv
    obtain ⟨l,⟨l1,lg⟩,l2⟩:=row_of_reads (t:=t) d (b:=b) (off:=off) (len+1) DD Pl 0 (λi hi=>by
     obtain ⟨cs2,q1,q2⟩:=hx i (by omega);exact ⟨cs2,by rw [uq];exact q1,q2⟩)
    refine ⟨l,zgU ?_,lg⟩;simp only [D.rep];refine ⟨_,cap,by rw [yS,l1],by rw [yS,l1];exact hl,.inr ⟨b,off,rfl,λhf=>hf,hb,?_⟩⟩;simpa using l2
 elOK h:=by
  obtain ⟨v,rfl,h1⟩:=zb6 h;refine ⟨v,h1,?_⟩;simp only [D.rep] at h1;obtain ⟨a,cap,rfl,-⟩:=h1;rfl
 arg hv h:=by
  obtain ⟨b,len,cap,rfl⟩:=WideShapes.okWide_slice ht hv;obtain ⟨v,hv',h1⟩:=zb6 h;obtain rfl:=List.head_eq_of_cons_eq hv';exact h1
structure DecF (P:Program) (off:Nat) (fs:List Field) (α:Type) where
 k:Nat
 flat:α→List D
 good:α→Prop
 opens:∀ {H:Type} {enc:TypeId×Value→H} {w:World} {sp:Nat→Bool} {held:Bool} {fuel:Nat} {cs:List Value},cs.length=off+k →
  (∀ f∈fs,∃ x:DataW H×List MemPlace,DataW.trod enc P w 0 sp held fuel f.type ((cs.drop f.offset).take (P.cellsOf f.type))=some x)→∃ a,D.reps Noneof w (flat a) (cs.drop off)∧good a
def fNil {off:Nat}:DecF P off [] Unit where
 k:=0
 flat _:=[]
 good _:=True
 opens hl _:=⟨(),by rw [List.drop_of_length_le (by omega)];simp only [D.reps],trivial⟩
def fCons {α β:Type} {off off':Nat} {f:Field} {fs:List Field} {t:TypeId} (d:Dec P t α) (ht:f.type=t) (ho:f.offset=off) (r:DecF P off' fs β) (hoff:off+d.k=off'):DecF P off (f::fs) (α×β) where
 k:=d.k+r.k
 flat a:=d.flat a.1++r.flat a.2
 good a:=d.good a.1∧r.good a.2
 opens {H enc w sp held fuel cs} hl h:=by
  subst hoff;obtain ⟨x,hx⟩:=h f (by simp);rw [ht,ho,d.cells] at hx;obtain ⟨a,ha,ga⟩:=d.opens hx;obtain ⟨b,hb,gb⟩:=r.opens (by omega) λg hg=>h g (by simp [hg])
  refine ⟨(a,b),?_,ga,gb⟩;have e:cs.drop off=(cs.drop off).take d.k++cs.drop (off+d.k):=by
   rw [← List.drop_drop,uB]
  rw [e];exact reps_two ha hb
def decS {α β:Type} {t:TypeId} {fs:Array Field} (ht:P.underlying t=some (.struct fs)) (F:DecF P 0 fs.toList α) (hc:P.cellsOf t=F.k) (hp:0<F.k) (mk:α→β) (flat:β→List D) (hflat:∀ a,flat (mk a)=F.flat a):Dec P t β where
 k:=F.k
 pos:=hp
 cells:=hc
 flat:=flat
 el b:=.agg (flat b)
 good b:=∃ a,mk a=b∧F.good a
 opens {H enc w sp held fuel cs x} h:=by
  obtain ⟨xs,n,-,-,hl,hsz,hf⟩:=DataW.trod_struct ht h;obtain ⟨a,ha,ga⟩:=F.opens (enc:=enc) (w:=w) (sp:=sp) (held:=held) (fuel:=n) (cs:=cs) (by omega) λf hm=>by
   obtain ⟨i,hi,rfl⟩:=List.mem_iff_getElem.1 hm;have h1:=hf i _ (by rw [← yY];exact yA hi);rw [h1];have hix:i<xs.length:=by rw [hsz,← yC];exact hi
   exact ⟨_,yA hix⟩
  refine ⟨mk a,?_,a,rfl,ga⟩;rw [hflat];simpa using ha
 elOK {w a cs} h:=by
  refine ⟨.agg cs.toArray,?_,rfl⟩;simp only [D.rep];exact ⟨cs.toArray,rfl,by simpa using h⟩
 arg {w r base v a} hv h:=by
  obtain ⟨cs,rfl,-⟩:=WideShapes.okWide_struct ht hv;simp only [D.rep];exact ⟨cs,rfl,h⟩
theorem Dec.of_arg {α:Type} {t} (d:Dec P t α) {H:Type} {enc:TypeId×Value→H} {w sp held} {r:Reach} {base v} {dd:DataW H} {ps:List MemPlace} (hv:Value.okWide P w r base t v) (h:DataW.Trod enc P w 0 sp held t v dd ps):∃ a,D.rep Noneof w (d.el a) v:=by
 obtain ⟨fuel,hf⟩:=h;obtain ⟨a,ha,-⟩:=d.opens hf;exact ⟨a,d.arg hv ha⟩
variable [Drw]
theorem zio {H:Type} {enc:TypeId×Value→H} (hl:laidOutB P=true) {W W'} (hb:Fr zd W W') {sp}:∀ {ts:List TypeId} {vs:List Value} {ds:List (DataW H)} {ps:List MemPlace},(∀ t∈ts,P.readableRec t=true∧t<P.types.size)→DataW.TrodAll enc P W 0 (λ_=>true) true ts vs ds ps→(∀ p∈ps,p.block<W.heap.size)→(∀ p∈ps,sp p.block=true)→DataW.TrodAll enc P W' 0 sp true ts vs ds ps
 | [],vs,ds,ps,_,h,_,_=>by
  obtain ⟨rfl,rfl,rfl⟩:=ChangeShapes.trodAll_nil h;exact ChangeShapes.trodAll_mk0
 | t::ts,vs,ds,ps,hr,h,hlt,hs=>by
  obtain ⟨v,vs',d,ds',p,q,rfl,rfl,rfl,h1,h2⟩:=ChangeShapes.trodAll_cons h;refine ⟨p,q,WideElems.Trod_stays hl (hr t (by simp)).1 (hr t (by simp)).2 h1 (λx hx=>?_) (λx hx=>hs x (by simp [hx])),zio hl hb (λu hu=>hr u (by simp [hu])) h2 (λx hx=>hlt x (by simp [hx])) (λx hx=>hs x (by simp [hx])),rfl⟩;have hx':=hlt x (by simp [hx]);cases x with
  | cell b o=>exact World.cell?_of_block (w:=W) (hb.block b hx' (λh=>h))
  | map b=>exact hb.block b hx' (λh=>h)
theorem post_kept {H:Type} {enc:TypeId×Value→H} {f} {s:ChangeSpec} {W W' args v} {ds gs:List (DataW H)} {before:List MemPlace}
  (hW:DataW.Whole enc P f.params.toList s.vars false W args.toList ds gs before) (hvars:s.vars=[]) (hx:(s.fn H (ds++gs)).args=ds) (hy:(s.fn H (ds++gs)).vars=[])
  (hl:laidOutB P=true) (hr:∀ t∈f.params.toList,P.readableRec t=true∧t<P.types.size) (hf:Fr zd W W')
  (hres:∀ (b:Nat) (sp:Nat→Bool) (hd:Bool),DataW.TrodAll enc P W' b sp hd f.resultTypes.toList (v.resultList f.resultTypes.size) (s.fn H (ds++gs)).results []) :
  s.post enc P f false true false false W args v W':=by
 have hb:Below W.heap.size W W':=⟨hf.os,hf.tape,hf.output,hf.size,λk hk=>hf.block k hk λh=>h⟩
 have hlt:∀ p∈before,p.block<W.heap.size:=λp hp=>hW.lt p hp
 obtain ⟨p,q,hA,hV,rfl,-,-⟩:=id hW;rw [hvars] at hV;obtain ⟨rfl,rfl⟩:=ChangeShapes.trodVars_none hV;simp only [ur] at hlt;have hst:∀ sp:Nat→Bool,(∀ x∈p,sp x.block=true)→DataW.TrodAll enc P W' 0 sp true f.params.toList args.toList (s.fn H (ds++[])).args p:=λsp hs=>by
  rw [hx];exact zio hl hf hr hA hlt hs
 have hvs:∀ sp:Nat→Bool,DataW.TrodVars enc P W' sp s.vars (s.fn H (ds++[])).vars []:=λsp=>by
  rw [hvars,hy];rfl
 exact ⟨ds,[],p++[],[],p,[],hW,hres _ _ _,hst _ (λx hx=>by simpa using hlt x hx),hvs _,hb.frame _,λh=>by cases h⟩
end
noncomputable def dInt:Dec Tryz.prog 3 Int:=decInt Tryz.underlying3 (by kernel_rfl)
noncomputable def dBool:Dec Tryz.prog 4 Bool:=decBool Tryz.underlying4 (by kernel_rfl)
noncomputable def dStr:Dec Tryz.prog 9 (List UInt8):=decStr Tryz.underlying9 (by kernel_rfl)
noncomputable def dInts:Dec Tryz.prog 22 (List Int):=decSl dInt Tryz.underlying22 (by kernel_rfl)
noncomputable def dStrs:Dec Tryz.prog 24 (List (List UInt8)):=decSl dStr Tryz.underlying24 (by kernel_rfl)
noncomputable def dRange:Dec Tryz.prog 85 Range:=decS (α:=Int×Int×Unit) Tryz.underlying85 (fCons dInt rfl rfl (fCons dInt rfl rfl fNil rfl) rfl) (by kernel_rfl) (by decide) (λx=>⟨x.1,x.2.1⟩) (λx=>[.int x.lo,.int x.hi]) (λ_=>rfl)
noncomputable def dTerm:Dec Tryz.prog 77 Term:=decS (α:=Int×Int×Unit) Tryz.underlying77 (fCons dInt rfl rfl (fCons dInt rfl rfl fNil rfl) rfl) (by kernel_rfl) (by decide) (λx=>⟨x.1,x.2.1⟩) (λx=>[.int x.cell,.int x.factor]) (λ_=>rfl)
noncomputable def dTerms:Dec Tryz.prog 67 (List Term):=decSl dTerm Tryz.underlying67 (by kernel_rfl)
noncomputable def dRow:Dec Tryz.prog 69 Row:=decS (α:=List Term×Int×Unit) Tryz.underlying69 (fCons dTerms rfl rfl (fCons dInt rfl rfl fNil rfl) rfl) (by kernel_rfl) (by decide) (λx=>⟨x.1,x.2.1⟩) (λx=>[.sl 2 (x.terms.map Term.enc),.int x.bound]) (λ_=>rfl)
noncomputable def dTable:Dec Tryz.prog 119 Table:=decS (α:=List UInt8×Int×List Int×Range×Int×Unit) Tryz.underlying119 (fCons dStr rfl rfl (fCons dInt rfl rfl (fCons dInts rfl rfl (fCons dRange rfl rfl (fCons dInt rfl rfl fNil rfl) rfl) rfl) rfl) rfl) (by kernel_rfl) (by decide) (λx=>⟨x.1,x.2.1,x.2.2.1,x.2.2.2.1,x.2.2.2.2.1⟩) (λx=>[.str x.name,.int x.kind,.sl 1 (x.columns.map D.int),.int x.range.lo,.int x.range.hi,.int x.first]) (λ_=>rfl)
noncomputable def dTables:Dec Tryz.prog 23 (List Table):=decSl dTable Tryz.underlying23 (by kernel_rfl)
noncomputable def dCon:Dec Tryz.prog 74 Constraint:=decS (α:=Int×Int×Row×Int×Int×Unit) Tryz.underlying74 (fCons dInt rfl rfl (fCons dInt rfl rfl (fCons dRow rfl rfl (fCons dInt rfl rfl (fCons dInt rfl rfl fNil rfl) rfl) rfl) rfl) rfl) (by kernel_rfl) (by decide) (λx=>⟨x.1,x.2.1,x.2.2.1,x.2.2.2.1,x.2.2.2.2.1⟩) (λx=>[.int x.kind,.int x.family,.sl 2 (x.row.terms.map Term.enc),.int x.row.bound,.int x.first,.int x.size]) (λ_=>rfl)
noncomputable def dCons:Dec Tryz.prog 25 (List Constraint):=decSl dCon Tryz.underlying25 (by kernel_rfl)
noncomputable def dOper:Dec Tryz.prog 123 Operation:=decS (α:=List UInt8×Bool×List Int×Unit) Tryz.underlying123 (fCons dStr rfl rfl (fCons dBool rfl rfl (fCons dInts rfl rfl fNil rfl) rfl) rfl) (by kernel_rfl) (by decide) (λx=>⟨x.1,x.2.1,x.2.2.1⟩) (λx=>[.str x.name,.bool x.ordered,.sl 1 (x.sorts.map D.int)]) (λ_=>rfl)
noncomputable def dOpers:Dec Tryz.prog 26 (List Operation):=decSl dOper Tryz.underlying26 (by kernel_rfl)
noncomputable def dChange:Dec Tryz.prog 125 Change:=decS (α:=Int×Int×Unit) Tryz.underlying125 (fCons dInt rfl rfl (fCons dInt rfl rfl fNil rfl) rfl) (by kernel_rfl) (by decide) (λx=>⟨x.1,x.2.1⟩) (λx=>[.int x.cell,.int x.add]) (λ_=>rfl)
noncomputable def dChanges:Dec Tryz.prog 56 (List Change):=decSl dChange Tryz.underlying56 (by kernel_rfl)
noncomputable def dRows:Dec Tryz.prog 57 (List Row):=decSl dRow Tryz.underlying57 (by kernel_rfl)
noncomputable def dUpdate:Dec Tryz.prog 184 Update:=decS (α:=Int×Int×Int×Unit) Tryz.underlying184 (fCons dInt rfl rfl (fCons dInt rfl rfl (fCons dInt rfl rfl fNil rfl) rfl) rfl) (by kernel_rfl) (by decide) (λx=>⟨x.1,x.2.1,x.2.2.1⟩) (λx=>[.int x.kind,.int x.cell,.int x.value]) (λ_=>rfl)
noncomputable def dUpdates:Dec Tryz.prog 58 (List Update):=decSl dUpdate Tryz.underlying58 (by kernel_rfl)
noncomputable def dEffect:Dec Tryz.prog 60 Effect:=decS (α:=List Change×List Row×List Update×Unit) Tryz.underlying60 (fCons dChanges rfl rfl (fCons dRows rfl rfl (fCons dUpdates rfl rfl fNil rfl) rfl) rfl) (by kernel_rfl) (by decide) (λx=>⟨x.1,x.2.1,x.2.2.1⟩) (λx=>[.sl 2 (x.delta.map Change.enc),.sl 2 (x.hold.map Row.enc),.sl 3 (x.updates.map Update.enc)]) (λ_=>rfl)
noncomputable def dAction:Dec Tryz.prog 62 Action:=decS (α:=Int×List Int×Effect×Unit) Tryz.underlying62 (fCons dInt rfl rfl (fCons dInts rfl rfl (fCons dEffect rfl rfl fNil rfl) rfl) rfl) (by kernel_rfl) (by decide) (λx=>⟨x.1,x.2.1,x.2.2.1⟩) (λx=>[.int x.operation,.sl 1 (x.arguments.map D.int),.sl 2 (x.effect.delta.map Change.enc),.sl 2 (x.effect.hold.map Row.enc),.sl 3 (x.effect.updates.map Update.enc)]) (λ_=>rfl)
noncomputable def dActions:Dec Tryz.prog 27 (List Action):=decSl dAction Tryz.underlying27 (by kernel_rfl)
noncomputable def dHide:Dec Tryz.prog 153 Hide:=decS (α:=Int×Int×Int×Unit) Tryz.underlying153 (fCons dInt rfl rfl (fCons dInt rfl rfl (fCons dInt rfl rfl fNil rfl) rfl) rfl) (by kernel_rfl) (by decide) (λx=>⟨x.1,x.2.1,x.2.2.1⟩) (λx=>[.int x.table,.int x.column,.int x.to]) (λ_=>rfl)
noncomputable def dHides:Dec Tryz.prog 28 (List Hide):=decSl dHide Tryz.underlying28 (by kernel_rfl)
noncomputable def dModel:Dec Tryz.prog 30 Model:=decS (α:=List Int×List Table×List (List UInt8)×List Constraint×List Operation×List Action×List Hide×Unit) Tryz.underlying30 (fCons dInts rfl rfl (fCons dTables rfl rfl (fCons dStrs rfl rfl (fCons dCons rfl rfl (fCons dOpers rfl rfl (fCons dActions rfl rfl (fCons dHides rfl rfl fNil rfl) rfl) rfl) rfl) rfl) rfl) rfl) (by kernel_rfl) (by decide) (λx=>⟨x.1,x.2.1,x.2.2.1,x.2.2.2.1,x.2.2.2.2.1,x.2.2.2.2.2.1,x.2.2.2.2.2.2.1⟩) (λx=>[.sl 1 (x.sorts.map D.int),.sl 6 (x.tables.map Table.enc),.sl 1 (x.families.map D.str),.sl 6 (x.constraints.map Constraint.enc),.sl 3 (x.operations.map Operation.enc),.sl 5 (x.actions.map Action.enc),.sl 3 (x.hides.map Hide.enc)]) (λ_=>rfl)
noncomputable def dTarget:Dec Tryz.prog 32 Target:=decS (α:=Bool×Int×Unit) Tryz.underlying32 (fCons dBool rfl rfl (fCons dInt rfl rfl fNil rfl) rfl) (by kernel_rfl) (by decide) (λx=>⟨x.1,x.2.1⟩) (λx=>[.bool x.hold,.int x.index]) (λ_=>rfl)
noncomputable def dQuest:Dec Tryz.prog 34 Question:=decS (α:=Int×Int×Target×Unit) Tryz.underlying34 (fCons dInt rfl rfl (fCons dInt rfl rfl (fCons dTarget rfl rfl fNil rfl) rfl) rfl) (by kernel_rfl) (by decide) (λx=>⟨x.1,x.2.1,x.2.2.1⟩) (λx=>[.int x.e,.int x.f,.bool x.target.hold,.int x.target.index]) (λ_=>rfl)
noncomputable def dScen:Dec Tryz.prog 36 Scenario:=decS (α:=Question×List Int×Unit) Tryz.underlying36 (fCons dQuest rfl rfl (fCons dInts rfl rfl fNil rfl) rfl) (by kernel_rfl) (by decide) (λx=>⟨x.1,x.2.1⟩) (λx=>[.int x.question.e,.int x.question.f,.bool x.question.target.hold,.int x.question.target.index,.sl 1 (x.state.map D.int)]) (λ_=>rfl)
theorem type0:(((begin Tryz.prog (λ_ _=>0) default).world.heap[0]?).bind Obj.row?).map (·.2)=some 3:=by kernel_rfl
theorem type1:(((begin Tryz.prog (λ_ _=>0) default).world.heap[1]?).bind Obj.row?).map (·.2)=some 253:=by kernel_rfl
theorem type2:(((begin Tryz.prog (λ_ _=>0) default).world.heap[2]?).bind Obj.row?).map (·.2)=some 166:=by kernel_rfl
theorem type3:(((begin Tryz.prog (λ_ _=>0) default).world.heap[3]?).bind Obj.row?).map (·.2)=some 166:=by kernel_rfl
theorem type8:(((begin Tryz.prog (λ_ _=>0) default).world.heap[8]?).bind Obj.row?).map (·.2)=some 288:=by kernel_rfl
theorem nGlob:Tryz.prog.globals.size=11:=by kernel_rfl
theorem blk_of {W:World} (hS:W.ShapedOpen Tryz.prog) {g:Nat} {t:TypeId} (hg:g<11) (ht:(((begin Tryz.prog (λ_ _=>0) default).world.heap[g]?).bind Obj.row?).map (·.2)=some t):∃ cs,W.heap[g]? = some (.cells cs t (0,0)):=by
 obtain ⟨⟨zero,u⟩,hz,rfl⟩:=Option.map_eq_some_iff.1 ht;obtain ⟨cs,hcs,-,-⟩:=hS.1 g zero u (by rw [nGlob];exact hg) hz;exact ⟨cs,hcs⟩
theorem blk_var {W:World} (hS:W.ShapedOpen Tryz.prog) {g:Nat} {t:TypeId} {nm:String} {vs:Array Value} (hg:g<11) (ht:(((begin Tryz.prog (λ_ _=>0) default).world.heap[g]?).bind Obj.row?).map (·.2)=some t) (hn:Tryz.prog.globalNamed nm=some g) (hv:W.var? Tryz.prog nm=some vs):W.heap[g]? = some (.cells vs t (0,0)):=by
 obtain ⟨cs,hcs⟩:=blk_of hS hg ht;unfold World.var? at hv;rw [hn] at hv;simp only [ya,hcs,yh] at hv;rw [hcs,hv]
theorem starE : "*" ++ "errors.errorString" = "*errors.errorString" := by decide
theorem rowE (u : TypeId) (h : Tryz.prog.typeName? 3 u = some "*errors.errorString") : u = 293 := typeName_ptr_named (nm := "errors.errorString") (by rw [starE]; kernel_rfl) (by kernel_rfl) (by decide) u (by rw [starE]; exact h)
theorem glob_ok {W:World} (hL:laidMetH Tryz.prog Rows.scenarioFormsRow.laid W) (hS:W.ShapedOpen Tryz.prog):∃ E:Env,@zd1 (@globs E) Noneof W:=by
 rw [MakeChecks.laidMetH_plain _ _ _ (by kernel_rfl)] at hL;have hp:=hL.tail.tail;have ep:(Rows.laid_internal_strconv_uint64pow10:DataW Unit)=Lib.tabData .u64 Lib.pow10Tab:=by kernel_rfl
 rw [ep] at hp;have tp : Lib.TabIs Tryz.prog W "internal/strconv.uint64pow10" .u64 Lib.pow10Tab := Lib.tabIs_of_head (g := 1) (t := 253) (e := 212) (n := 20) (by kernel_rfl) (by kernel_rfl) Tryz.underlying253 Tryz.underlying212 (by kernel_rfl) (by kernel_rfl) hp;have ha := hL.tail.tail.tail.tail.tail.tail.tail;have ea : (Rows.laid_strings_asciiSpace : DataW Unit) = Lib.tabData .u8 tab8 := by kernel_rfl
 rw [ea] at ha;have ta : Lib.TabIs Tryz.prog W "strings.asciiSpace" .u8 tab8 := Lib.tabIs_of_head (g := 8) (t := 288) (e := 5) (n := 256) (by kernel_rfl) (by kernel_rfl) Tryz.underlying288 Tryz.underlying5 (by kernel_rfl) (by kernel_rfl) ha;obtain ⟨a1, s1, hv1, -, -, -⟩ := laid_sentinel (g := 3) (ti := 166) hL.tail.tail.tail.tail (by kernel_rfl) (by kernel_rfl) Tryz.underlying166 rowE Tryz.underlying293 Tryz.underlying295 rfl rfl Tryz.underlying9 (by kernel_rfl) (by kernel_rfl);obtain ⟨a2, s2, hv2, -, -, -⟩ := laid_sentinel (g := 2) (ti := 166) hL.tail.tail.tail.tail.tail (by kernel_rfl) (by kernel_rfl) Tryz.underlying166 rowE Tryz.underlying293 Tryz.underlying295 rfl rfl Tryz.underlying9 (by kernel_rfl) (by kernel_rfl);obtain ⟨m, hm⟩ := cell_of_shapedOpen_int (zero := #[.int .i64 0]) (t := 3) (g := 0) hS (by rw [nGlob]; decide) (by kernel_rfl) rfl (by kernel_rfl) (by kernel_rfl) Tryz.underlying3;obtain ⟨⟨zero, u⟩, hz, hu⟩ := Option.map_eq_some_iff.1 type0;subst hu;obtain ⟨cs, hcs, hsz, -⟩ := hS.1 0 zero _ (by rw [nGlob]; decide) hz;have hz1 : zero.size = 1 := by
  have h1:((begin Tryz.prog (λ_ _=>0) default).world.heap[0]?).bind Obj.row? = some (#[.int .i64 0],3):=by kernel_rfl
  rw [h1] at hz;cases hz;rfl
 have hc0:cs = #[.int .i64 m]:=by
  simp only [World.cell?,hcs,ya] at hm;apply Array.ext
  ·simp [hsz,hz1]
  ·intro i h1 h2;obtain rfl:i=0:=by simp at h2;omega
   simpa [uh h1] using hm
 subst hc0;refine ⟨⟨m,.iface 293 (.pointer (some a2)),.iface 293 (.pointer (some a1)),⟨_,_,rfl⟩,⟨_,_,rfl⟩⟩,λ(p:Nat×Obj) hp=>⟨λh=>h,?_⟩⟩;simp only [Globs.gs,yI,List.not_mem_nil,or_false] at hp;rcases hp with rfl | rfl | rfl | rfl | rfl
 ·exact blk_var hS (by simp) type8 (by kernel_rfl) ta
 ·exact hcs
 ·exact blk_var hS (by simp) type1 (by kernel_rfl) tp
 ·exact blk_var hS (by simp) type2 (by kernel_rfl) hv2
 ·exact blk_var hS (by simp) type3 (by kernel_rfl) hv1
section
open Go Go.RowKit Go.Proofs
variable [Env]
theorem Y227:zE Tryz.prog 227=some (some 4):=by kernel_rfl
def tokL : List Oper := [{ dst := some 84, op := Op.move (Operand.tmp 0), type := 286, pos := "lexer.go:103", after := #[], guard := none }, { dst := some 85, op := Op.load 227 (Operand.tmp 5), type := 227, pos := "lexer.go:103", after := #[], guard := none }, { dst := some 86, op := Op.call { callee := Callee.value (Operand.tmp 84), args := #[Operand.tmp 85], argTypes := #[227] }, type := 4, pos := "lexer.go:103", after := #[{ on := 0, ground := Ground.data }, { on := 1, ground := Ground.data }], guard := none }, { dst := some 87, op := Op.unOp UnOp.not 4 (Operand.tmp 86), type := 4, pos := "lexer.go:103", after := #[{ on := 2, ground := Ground.data }], guard := none }, { dst := some 88, op := Op.move (Operand.tmp 87), type := 4, pos := "lexer.go:103", after := #[{ on := 3, ground := Ground.data }, { on := 2, ground := Ground.chain }], guard := none }, { dst := some 89, op := Op.fieldAddr 227 (Operand.tmp 5) 0, type := 0, pos := "lexer.go:103", after := #[{ on := 4, ground := Ground.guard }], guard := some (4, false) }, { dst := some 90, op := Op.load 3 (Operand.tmp 89), type := 3, pos := "lexer.go:103", after := #[{ on := 5, ground := Ground.data }, { on := 4, ground := Ground.guard }], guard := some (4, false) }, { dst := some 91, op := Op.binOp BinOp.eql 3 (Operand.tmp 90) (Operand.const (Value.int IntKind.i64 0)) 3, type := 4, pos := "lexer.go:103", after := #[{ on := 6, ground := Ground.data }, { on := 4, ground := Ground.guard }], guard := some (4, false) }, { dst := some 92, op := Op.pick (Operand.tmp 88) (Operand.const (Value.bool true)) (Operand.tmp 91), type := 4, pos := "lexer.go:103", after := #[{ on := 4, ground := Ground.data }, { on := 7, ground := Ground.data }], guard := none }]
def tokX:Code:=.seq (.region 19 tokL.toArray false) (.cond (.tmp 92) .ret .skip)
theorem R.reCtx {C C':Ctx} (h1:C'.A0=C.A0) (h2:C'.own0=C.own0) (h3:C'.w0=C.w0) (h4:C'.n=C.n) (h5:C'.gh=C.gh) (h6:C'.gn=C.gn) (h7:C'.df=C.df) {bs:List (Option Nat)} {s:St} {a:Act} {w:World} (h:R C bs s a w):R C' bs s a w:=by
 obtain ⟨A0,own0,w0,n,esc,gh,gn,df⟩:=C
 obtain ⟨A1,own1,w1,n1,esc1,gh1,gn1,df1⟩:=C'
 simp only at h1 h2 h3 h4 h5 h6 h7
 subst h1;subst h2;subst h3;subst h4;subst h5;subst h6;subst h7
 exact ⟨h.own,h.len,h.blk,h.tmp,h.defers,h.size,h.fr,h.new,h.gh⟩
theorem R.noEsc {A0 own0:Nat→Prop} {w0:World} {n:Nat} {esc esc':Act→World→Prop} {bs:List (Option Nat)} {s:St} {a:Act} {w:World} (h:R ⟨A0,own0,w0,n,esc,[],0,[]⟩ bs s a w):R ⟨A0,own0,w0,n,esc',[],0,[]⟩ bs s a w:=
 ⟨h.own,h.len,h.blk,h.tmp,h.defers,h.size,h.fr,h.new,h.gh⟩
theorem tokX_tri {A:Nat→Prop} {w0:World} {Post:World→Prop} (l:Nat) (tok:Token)
  (hround:∀ (W:World) (v:Value),Fr zd w0 W→D.rep A W tok.enc v→∃ fn tm asg bd,(Instr.yield l #[v]).run Tryz.prog W = .ok (.round l fn tm asg bd) W∧RoundIn Fence.wide 0 Tryz.prog l fn tm asg bd W (λe W'=>e = .returned (.bool false)∧Post W'))
  (Q:Exit→St→Prop) (T:List (Nat×V)) (H:List Blk) (j:Nat) (h0:look 0 T=some (.d (.fn (.yield l) [] []))) (h5:look 5 T=some (.loc j 0)) (hj:H[j]? = some (.box 227 (V.cellsV (.d tok.enc)))) :
  Tri Tryz.prog ⟨A,zd,w0,93,λa W'=>a.defers=[]∧Post W',[],0,[]⟩ tokX Q ⟨T,H⟩:=by
 refine ⟨λbs a w hR=>(wpIn_wide (n:=1)).1 ?_⟩
 unfold tokX
 refine wpIn_seq (wpIn_region_lit ?_)
 have hR':R ⟨A,zd,w0,93,λ_ _=>False,[],0,[]⟩ bs ⟨T,H⟩ a w:=R.reCtx (C:=⟨A,zd,w0,93,λa W'=>a.defers=[]∧Post W',[],0,[]⟩) (C':=⟨A,zd,w0,93,λ_ _=>False,[],0,[]⟩) rfl rfl rfl rfl rfl rfl rfl hR
 have hpre:TriL Tryz.prog ⟨A,zd,w0,93,λ_ _=>False,[],0,[]⟩ tokL.toArray (tokL.take 2) (λe s=>e = .normal∧look 84 s.T=some (.d (.fn (.yield l) [] []))∧look 85 s.T=some (.d tok.enc)) ⟨T,H⟩:=by
  refine .op rfl rfl (.move rfl h0) ?_
  refine .op rfl rfl (.loadLoc rfl h5 hj Y227 (yi rfl) (v:=.d tok.enc) rfl) ?_
  exact .nil ⟨rfl,rfl,rfl⟩
 refine zgL (pre:=tokL.take 2) (post:=tokL.drop 2) (Q0:=QR _ _) ?_ ?_ a w (hpre.run bs a w hR')
 ·rintro e a w (⟨_,_,⟨h,_⟩,_⟩ | ⟨_,h⟩)
  ·exact h
  ·exact h.elim
 rintro a1 w1 (⟨bs1,s1,⟨_,g1,g2⟩,hR1⟩ | ⟨h,_⟩)
 case inr=>cases h
 have e84:=hR1.ev (x:=.tmp 84) (by simpa [ev] using g1)
 have e85:=hR1.ev (x:=.tmp 85) (by simpa [ev] using g2)
 simp only [V.rep,D.rep] at e84
 obtain ⟨vs,us,e84,e1,e2⟩:=e84
 simp only [D.reps] at e1 e2
 have e1:vs = #[]:=by simpa using e1
 have e2:us = #[]:=by simpa using e2
 subst e1;subst e2
 simp only [V.rep] at e85
 obtain ⟨fn,tm,asg,bd,hy,hr⟩:=hround w1 _ hR1.fr (D.scal_rep rfl e85)
 have hsz:a1.tmps.size=93:=hR1.size
 have hdf:=hR1.defers
 simp only [tokL,List.drop]
 refine wpListIn_plain rfl λK hK=>⟨λ_ _=>trivial,?_⟩
 have hx:∀ (o:Oper),o.op = .call { callee:=.value (.tmp 84),args:=#[.tmp 85],argTypes:=#[227] }→(execOp a1.eval o).run Tryz.prog w1 = .ok (.round l fn tm asg bd) w1:=λo ho=>by
  simp [execOp,ho,resolve,e84,Deferred.ofValue,invoke,hy]
 have hsm:∀ ρ o,Oper.semAt Fence.wide.round ρ o=execOp ρ o:=λ_ _=>rfl
 rw [hsm,hx _ rfl,Oper.uponIn_round]
 refine ⟨λh=>by simp [Fence.wide] at h,hr.mono ?_⟩
 rintro e W' ⟨rfl,hp⟩
 refine hK _ _ ?_
 obtain ⟨a2,ha2⟩:∃ a2,a1.put (some 86) (.bool false)=a2:=⟨_,rfl⟩
 have z2:a2.tmps.size=93∧a2.defers=[]∧a2.tmps[86]? = some (.bool false):=by subst ha2;exact ⟨by simp [Act.put,hsz],hdf,by simp [Act.put,hsz]⟩
 simp only [ha2]
 clear ha2 hK K
 refine wpListIn_plain rfl λK hK=>⟨λ_ _=>trivial,?_⟩
 rw [hsm]
 have x87:∀ (o:Oper),o.op = .unOp .not 4 (.tmp 86)→(execOp a2.eval o).run Tryz.prog W' = .ok (.value (.bool true)) W':=λo ho=>by simp [execOp,ho,Op.unary,Act.eval,z2.2.2]
 rw [x87 _ rfl]
 refine hK _ _ ?_
 obtain ⟨a3,ha3⟩:∃ a3,a2.put (some 87) (.bool true)=a3:=⟨_,rfl⟩
 have z3:a3.tmps.size=93∧a3.defers=[]∧a3.tmps[87]? = some (.bool true):=by subst ha3;exact ⟨by simp [Act.put,z2.1],z2.2.1,by simp [Act.put,z2.1]⟩
 simp only [ha3]
 clear ha3 hK K
 refine wpListIn_plain rfl λK hK=>⟨λ_ _=>trivial,?_⟩
 rw [hsm]
 have x88:∀ (o:Oper),o.op = .move (.tmp 87)→(execOp a3.eval o).run Tryz.prog W' = .ok (.value (.bool true)) W':=λo ho=>by simp [execOp,ho,Act.eval,z3.2.2]
 rw [x88 _ rfl]
 refine hK _ _ ?_
 obtain ⟨a4,ha4⟩:∃ a4,a3.put (some 88) (.bool true)=a4:=⟨_,rfl⟩
 have z4:a4.tmps.size=93∧a4.defers=[]∧a4.tmps[88]? = some (.bool true):=by subst ha4;exact ⟨by simp [Act.put,z3.1],z3.2.1,by simp [Act.put,z3.1]⟩
 simp only [ha4]
 clear ha4 hK K
 have hw:∀ (a:Act) (o:Oper),o.guard=some (4,false)→a.tmps[88]? = some (.bool true)→Region.wanted o (yielded tokL.toArray a.tmps)=false:=λa o ho ha=>by
  simp [Region.wanted,ho,yielded,tokL,ha]
 simp only [tokL] at hw
 refine wpListIn_skip (hw a4 _ rfl z4.2.2) rfl ?_
 obtain ⟨a5,ha5⟩:∃ a5,a4.put (some 89) undef=a5:=⟨_,rfl⟩
 have z5:a5.tmps.size=93∧a5.defers=[]∧a5.tmps[88]? = some (.bool true):=by subst ha5;exact ⟨by simp [Act.put,z4.1],z4.2.1,by simp [Act.put,z4.2.2]⟩
 simp only [ha5]
 refine wpListIn_skip (hw a5 _ rfl z5.2.2) rfl ?_
 obtain ⟨a6,ha6⟩:∃ a6,a5.put (some 90) undef=a6:=⟨_,rfl⟩
 have z6:a6.tmps.size=93∧a6.defers=[]∧a6.tmps[88]? = some (.bool true):=by subst ha6;exact ⟨by simp [Act.put,z5.1],z5.2.1,by simp [Act.put,z5.2.2]⟩
 simp only [ha6]
 refine wpListIn_skip (hw a6 _ rfl z6.2.2) rfl ?_
 obtain ⟨a7,ha7⟩:∃ a7,a6.put (some 91) undef=a7:=⟨_,rfl⟩
 have z7:a7.tmps.size=93∧a7.defers=[]∧a7.tmps[88]? = some (.bool true):=by subst ha7;exact ⟨by simp [Act.put,z6.1],z6.2.1,by simp [Act.put,z6.2.2]⟩
 simp only [ha7]
 clear ha5 ha6 ha7
 refine wpListIn_plain rfl λK hK=>⟨λ_ _=>trivial,?_⟩
 rw [hsm]
 have x92:∀ (o:Oper),o.op = .pick (.tmp 88) (.const (.bool true)) (.tmp 91)→(execOp a7.eval o).run Tryz.prog W' = .ok (.value (.bool true)) W':=λo ho=>by simp [execOp,ho,asBool,Act.eval,z7.2.2]
 rw [x92 _ rfl]
 refine hK _ _ ?_
 obtain ⟨a8,ha8⟩:∃ a8,a7.put (some 92) (.bool true)=a8:=⟨_,rfl⟩
 have z8:a8.defers=[]∧a8.tmps[92]? = some (.bool true):=by subst ha8;exact ⟨z7.2.1,by simp [Act.put,z7.1]⟩
 simp only [ha8]
 refine wpListIn_nil ?_
 simp only [Exit.then]
 refine wpIn_cond (t:=true) (by simp [Act.eval,z8.2]) ?_
 exact wpIn_ret (.inr ⟨rfl,z8.1,hp⟩)
end
section
def isData:Obj→Bool
 | .cells _ _ _ | .map _ _ | .mapIter _ _ _ _=>true
 | _=>false
structure Turn (w w':World):Prop where
 size:w'.heap.size=w.heap.size
 at_:∀ (b:Nat) (o:Obj),w.heap[b]? = some o→isData o=true→w'.heap[b]? = some o
theorem Turn.put {w l o o'} (h:w.heap[l]? = some o) (hn:isData o=false):Turn w (w.putObj l o'):=
 ⟨by simp,λb q hb hq=>by
  by_cases e:b=l
  ·subst e;rw [h] at hb;cases hb;rw [hn] at hq;cases hq
  ·exact (World.putObj_heap_other e).trans hb⟩
theorem Turn.cell {w w'} (t:Turn w w') {p v} (h:w.cell? p=some v):w'.cell? p=some v:=by
 unfold World.cell? at h ⊢;cases hb:w.heap[p.block]? with
 | none=>simp [hb] at h
 | some o=>
  cases o with
  | cells c e f=>rw [t.at_ _ _ hb rfl];simpa [hb] using h
  | _=>simp [hb] at h
theorem Turn.cells {w w'} (t:Turn w w') {b off u} (h:zdW w b off u):zdW w' b off u:=λj hj=>by
 have:=h j hj;rw [uh hj] at this ⊢;exact t.cell this
theorem Turn.row {w w'} (t:Turn w w') {b e k v n xs} (h:w.ownsRow b e k v n xs):w'.ownsRow b e k v n xs:=
 ⟨h.1,h.2.imp id λ⟨g,cap,cur,a1,a2,a3,rest⟩=>⟨g,cap,cur,a1,a2,t.at_ _ _ a3 rfl,rest⟩⟩
mutual
theorem D.rep_turn {A w w'} (t:Turn w w'):∀ (d:D) (v:Value),D.rep A w d v→D.rep A w' d v
 | .val x,v,hv=>by simpa only [D.rep] using hv
 | .agg cs,v,hv=>by
  simp only [D.rep] at hv ⊢;obtain ⟨vs,e,hr⟩:=hv;exact ⟨vs,e,D.reps_turn t cs _ hr⟩
 | .tup cs,v,hv=>by
  simp only [D.rep] at hv ⊢;obtain ⟨vs,e,hr⟩:=hv;exact ⟨vs,e,D.reps_turn t cs _ hr⟩
 | .sl k xs,v,hv=>by
  simp only [D.rep] at hv ⊢;obtain ⟨a,cap,e,hcap,hr⟩:=hv;refine ⟨a,cap,e,hcap,hr.imp id λ⟨b,off,ea,hb,hs,hr⟩=>⟨b,off,ea,hb,by rw [t.size];exact hs,D.row_turn t b k xs off hr⟩⟩
 | .ref x,v,hv=>by
  simp only [D.rep] at hv ⊢;obtain ⟨b,off,u,e,hb,hs,hr,hc⟩:=hv;exact ⟨b,off,u,e,hb,by rw [t.size];exact hs,D.rep_turn t x u hr,t.cells hc⟩
 | .fn f fs cs,v,hv=>by
  simp only [D.rep] at hv ⊢;obtain ⟨vs,us,e,h1,h2⟩:=hv;exact ⟨vs,us,e,D.reps_turn t fs _ h1,D.reps_turn t cs _ h2⟩
 | .mp ks ds,v,hv=>by
  simp only [D.rep] at hv ⊢;obtain ⟨b,es,clock,e,hb,hs,hh,h1,hwf,h2⟩:=hv;exact ⟨b,es,clock,e,hb,by rw [t.size];exact hs,t.at_ _ _ hh rfl,h1,hwf,D.reps_turn t ds _ h2⟩
 | .err,v,hv=>by simpa only [D.rep] using hv
theorem D.reps_turn {A w w'} (t:Turn w w'):∀ (ds:List D) (vs:List Value),D.reps A w ds vs→D.reps A w' ds vs
 | [],vs,hv=>by simpa only [D.reps] using hv
 | d::ds,vs,hv=>by
  simp only [D.reps] at hv ⊢;obtain ⟨v,vs',e,h1,h2⟩:=hv;exact ⟨v,vs',e,D.rep_turn t d v h1,D.reps_turn t ds vs' h2⟩
theorem D.row_turn {A w w'} (t:Turn w w') (b k):∀ (xs:List D) (off:Nat),D.row A w b k xs off→D.row A w' b k xs off
 | [],_,_=>by simp only [D.row]
 | x::xs,off,hv=>by
  simp only [D.row] at hv ⊢;obtain ⟨⟨u,h1,h2,h3⟩,h4⟩:=hv;exact ⟨⟨u,D.rep_turn t x u h1,t.cells h2,h3⟩,D.row_turn t b k xs (off+k) h4⟩
end
theorem D.flat_turn {A w w'} (t:Turn w w') {k}:∀ (xs:List D) (cs:List Value),D.flat A w k xs cs→D.flat A w' k xs cs
 | [],cs,hv=>by simpa only [D.flat] using hv
 | x::xs,cs,hv=>by
  simp only [D.flat] at hv ⊢;obtain ⟨u,cs',e,hk,h1,h2⟩:=hv;exact ⟨u,cs',e,hk,D.rep_turn t x u h1,D.flat_turn t xs cs' h2⟩
theorem QueAt.turn {A w w' b o cap k ty xs} (q:QueAt A w b o cap k ty xs) (t:Turn w w'):QueAt A w' b o cap k ty xs:=by
 obtain ⟨h1,cells,h2,h3,cs,h4,h5⟩:=q;exact ⟨h1,cells,t.at_ _ _ h2 rfl,h3,cs,D.flat_turn t xs cs h4,h5⟩
mutual
theorem V.rep_turn {A w w' bs H} (t:Turn w w'):∀ (x:V) (v:Value),V.rep A w bs H x v→V.rep A w' bs H x v
 | .d x,v,hv=>by simp only [V.rep] at hv ⊢;exact D.rep_turn t x v hv
 | .loc i off,v,hv=>by simpa only [V.rep] using hv
 | .vec i n,v,hv=>by
  simp only [V.rep] at hv ⊢;split at hv
  ·refine ⟨hv.1,λhn=>?_⟩;obtain ⟨cells,h1,h2,h3⟩:=hv.2 hn;exact ⟨cells,t.row h1,h2,D.flat_turn t _ cells h3⟩
  ·trivial
  ·exact hv.elim
 | .arr i off n,v,hv=>by simpa only [V.rep] using hv
 | .el i n j off,v,hv=>by
  simp only [V.rep] at hv ⊢;split at hv
  ·refine ⟨hv.1,λhn=>?_⟩;obtain ⟨hdr,cells,h1,h2,h3,h4⟩:=hv.2 hn;exact ⟨hdr,cells,t.row h1,h2,D.flat_turn t _ cells h3,h4⟩
  ·trivial
  ·exact hv.elim
 | .sub i n lo hi,v,hv=>by
  simp only [V.rep] at hv ⊢;split at hv
  ·refine ⟨hv.1,λhn=>?_⟩;obtain ⟨hdr,cells,h1,h2,h3,h4⟩:=hv.2 hn;exact ⟨hdr,cells,t.row h1,h2,D.flat_turn t _ cells h3,h4⟩
  ·trivial
  ·exact hv.elim
 | .agg cs,v,hv=>by
  simp only [V.rep] at hv ⊢;obtain ⟨vs,e,hr⟩:=hv;exact ⟨vs,e,V.reps_turn t cs _ hr⟩
 | .tup cs,v,hv=>by
  simp only [V.rep] at hv ⊢;obtain ⟨vs,e,hr⟩:=hv;exact ⟨vs,e,V.reps_turn t cs _ hr⟩
 | .fn f fs cs,v,hv=>by
  simp only [V.rep] at hv ⊢;obtain ⟨vs,us,e,h1,h2⟩:=hv;exact ⟨vs,us,e,V.reps_turn t fs _ h1,V.reps_turn t cs _ h2⟩
 | .mp i,v,hv=>by simpa only [V.rep] using hv
 | .itp i,v,hv=>by simpa only [V.rep] using hv
 | .que i m,v,hv=>by
  simp only [V.rep] at hv ⊢;split at hv
  ·refine ⟨hv.1,λhn=>?_⟩;obtain ⟨b,o,cap,h1,h2,h3⟩:=hv.2 hn;exact ⟨b,o,cap,h1,h2,h3.turn t⟩
  ·trivial
  ·exact hv.elim
 | .qel i m j,v,hv=>by
  simp only [V.rep] at hv ⊢;split at hv
  ·refine ⟨hv.1,λhn=>?_⟩;obtain ⟨b,o,cap,h1,h2,hj,h3⟩:=hv.2 hn;exact ⟨b,o,cap,h1,h2,hj,h3.turn t⟩
  ·trivial
  ·exact hv.elim
 | .junk,_,_=>by simp only [V.rep]
theorem V.reps_turn {A w w' bs H} (t:Turn w w'):∀ (xs:List V) (vs:List Value),V.reps A w bs H xs vs→V.reps A w' bs H xs vs
 | [],vs,hv=>by simpa only [V.reps] using hv
 | x::xs,vs,hv=>by
  simp only [V.reps] at hv ⊢;obtain ⟨v,vs',e,h1,h2⟩:=hv;exact ⟨v,vs',e,V.rep_turn t x v h1,V.reps_turn t xs vs' h2⟩
end
theorem Blk.rep_turn {A w w' bs H} (t:Turn w w') (i:Nat) (k:Blk) (hk:k.rep A w bs H i):k.rep A w' bs H i:=by
 cases k with
 | box ty cs=>
  simp only [Blk.rep] at hk ⊢;obtain ⟨b,vs,h1,h2,h3⟩:=hk;exact ⟨b,vs,h1,t.at_ _ _ h2 rfl,V.reps_turn t cs _ h3⟩
 | arr ty k xs=>
  simp only [Blk.rep] at hk ⊢;obtain ⟨b,vs,h1,h2,h3⟩:=hk;exact ⟨b,vs,h1,t.at_ _ _ h2 rfl,D.flat_turn t xs _ h3⟩
 | mp bo ks ds clock=>
  simp only [Blk.rep] at hk ⊢;obtain ⟨b,es,h1,h2,h3,h4,h5⟩:=hk;exact ⟨b,es,h1,t.at_ _ _ h2 rfl,h3,h4,D.reps_turn t ds _ h5⟩
 | it j since seen last=>
  simp only [Blk.rep] at hk ⊢;split at hk
  ·obtain ⟨b,m,h1,h2,h3⟩:=hk;exact ⟨b,m,h1,h2,t.at_ _ _ h3 rfl⟩
  ·trivial
  ·exact hk.elim
 | itd bo ks ds clock since seen last=>
  simp only [Blk.rep] at hk ⊢;obtain ⟨b,mb,es,h1,h2,h3,h4,h5,h6,h7,h8⟩:=hk;exact ⟨b,mb,es,h1,h2,by rw [t.size];exact h3,t.at_ _ _ h4 rfl,h5,h6,D.reps_turn t ds _ h7,t.at_ _ _ h8 rfl⟩
 | vec ty k xs=>trivial
 | que s ty k xs=>trivial
 | dead=>trivial
theorem R.turn {G G':Globs} [D0:Drw] {C C' bs s a w w'} (h : @R G D0 C bs s a w) (t:Turn w w') (hA:C'.A0=C.A0) (hn:C'.n=C.n) (hgh:C'.gh=C.gh) (hgn:C'.gn=C.gn) (hdf:C'.df=C.df)
  (hfr:Fr C'.own0 C'.w0 w') (hnew:∀ b,some b∈bs→C'.own0 b∨C'.w0.heap.size≤b) (hg : @zd1 G' (Own C'.A0 bs) w') : @R G' D0 C' bs s a w':=by
 obtain ⟨A0,own0,w0,n,esc,gh,gn,df⟩:=C;obtain ⟨A1,own1,w1,n1,esc1,gh1,gn1,df1⟩:=C';simp only at hA hn hgh hgn hdf hfr hnew hg;subst hA;subst hn;subst hgh;subst hgn;subst hdf;obtain ⟨⟨o1,o2,o3,o4,_⟩,hlen,hblk,htmp,hd,hsz,_,_,hghs⟩:=h;exact ⟨⟨o1,o2,λb hb=>by rw [t.size];exact o3 b hb,λb hb=>by rw [t.size];exact o4 b hb,hg⟩,hlen,λi k hk=>Blk.rep_turn t i k (hblk i k hk),λu v hv=>⟨(htmp u v hv).1,V.rep_turn t v _ (htmp u v hv).2⟩,hd,hsz,hfr,hnew,λp hp=>⟨(hghs p hp).1,V.rep_turn t _ _ (hghs p hp).2⟩⟩
theorem Pure.widen {G G':Globs} [D0:Drw] (hs:∀ p∈G.gs,p∈G'.gs) {P f xs y} (h : @Pure G D0 P f xs y) : @Pure G' D0 P f xs y:=
 by
 obtain ⟨h⟩:=h;exact ⟨λA w vs hA hG hr=>h A w vs hA (λp hp=>hG p (hs p hp)) hr⟩
variable [Globs] [Drw]
theorem Oper.wpIn_wide {P:Program} {F:Fence} (hF:F=Fence.wide∨∃ l,F=Fence.wide.inRound l) {o:Oper} (ho:∀ c,o.op≠.defer c) {a:Act} {w:World} {K:Act→World→Prop} {Q:Exit→Act→World→Prop} (h:o.wp P a w K Q):o.wpIn F 0 P a w K Q:=by
 have hfn:∀ f,F.fn f:=by rcases hF with rfl | ⟨l,rfl⟩ <;> exact λ_=>trivial
 have hdep:F.depth=none:=by rcases hF with rfl | ⟨l,rfl⟩ <;> rfl
 have hcalls:∀ {f args w R},Calls P f args w R→CallsIn F 0 P f args w R:=by
  rcases hF with rfl | ⟨l,rfl⟩
  ·exact λh=>callsIn_wide.2 h
  ·exact λh=>(callsIn_wide (n:=0)).2 h
 have hrows:∀ {row args w R},Rows P row args w R→RowsIn F 0 P row args w R:=by
  rcases hF with rfl | ⟨l,rfl⟩
  ·exact λh c cs _=>by
    obtain ⟨v,w1,r,s⟩:=h c cs;exact ⟨v,w1,r,stepsIn_wide.2 s⟩
  ·exact λh c cs _=>by
    obtain ⟨v,w1,r,s⟩:=h c cs;exact ⟨v,w1,r,stepsIn_wide.2 s⟩
 refine ⟨λf _=>hfn f,?_⟩;rw [Oper.semAt_eq _ _ _ ho];unfold Oper.wp at h;generalize (execOp a.eval o).run P w=r at *;cases r with
 | ok nx w'=>
  cases nx with
  | value v=>exact h
  | skip=>exact h
  | defer d=>exact h
  | enter f args=>exact ⟨λhd=>(by rw [hdep] at hd;cases hd),hcalls h⟩
  | row row args=>exact ⟨λhd=>(by rw [hdep] at hd;cases hd),hrows h⟩
  | _=>exact h.elim
 | halt x w'=>
  cases x with
  | panic v=>exact h
  | _=>exact h.elim
def zep (o:Oper):Bool:=match o.op with | .defer _=>false | _=>true
theorem zgr {o} (h:zep o=true):∀ c,o.op≠.defer c:=λc e=>by simp [zep,e] at h
theorem zfM {P:Program} {F:Fence} (hF:F=Fence.wide∨∃ l,F=Fence.wide.inRound l) {ops:Array Oper} {Q0 Q':Exit→Act→World→Prop} (hno:∀ e a w,Q0 e a w→e = .normal) (hk:∀ a w,Q0 .normal a w→Q' .normal a w) :
  ∀ (l:List Oper) (a:Act) (w:World),(l.all zep)=true→wpList P ops Q0 l a w→wpListIn F 0 P ops Q' l a w
 | [],a,w,_,h=>hk a w h
 | o::l,a,w,hd,h=>by
  simp only [um,yc] at hd;simp only [wpList] at h;simp only [wpListIn];have hfn:∀ f,F.fn f:=by rcases hF with rfl | ⟨l,rfl⟩ <;> exact λ_=>trivial
  split <;> rename_i hw
  ·rw [if_pos hw] at h;rcases h with h | ⟨_,a',w',h⟩
   ·have hp:∀ c a w,¬ Q0 (.panic c) a w:=λc a w h=>by have:=hno _ _ _ h;cases this
    have ho:¬ LetsOut Q0:=λ⟨a,w,h⟩=>by have:=hno _ _ _ h;cases this
    refine Oper.wpIn_wide hF (zgr hd.1) ?_;have ih:∀ a w,wpList P ops Q0 l a w→wpListIn F 0 P ops Q' l a w:=λa w h=>zfM hF hno hk l a w hd.2 h
    unfold Oper.wp at *;generalize (execOp a.eval o).run P w=r at *;cases r with
    | ok nx w'=>
     cases nx <;> simp only [Oper.upon] at h ⊢
     case value u=>exact ih _ _ h
     case skip=>exact ih _ _ h
     case defer d=>exact ih _ _ h
     case enter f args=>
      refine Calls.mono h λe w'' he=>?_
      cases e with
      | returned u=>exact ih _ _ he
      | panicked c=>exact absurd he (hp _ _ _)
      | outgrown=>exact absurd he ho
     case row row args=>exact Rows.mono h λu w'' he=>ih _ _ he
    | halt x w'=>
     cases x <;> simp only [Oper.upon] at h ⊢
     case panic u=>exact absurd h (hp _ _ _)
   ·exact absurd (hno _ _ _ h) (by simp)
  ·rw [if_neg hw] at h;exact ⟨λf _=>hfn f,zfM hF hno hk l _ _ hd.2 h⟩
structure OneI (P:Program) (C:Ctx) (ops:Array Oper) (o:Oper) (s s':St):Prop where
 run:∀ bs a w,R C bs s a w→∀ (Q:Exit→Act→World→Prop) (i:Nat) (K:Act→World→Prop),ops[i]? = some o→(∀ a w,(∃ bs,R C bs s' a w)→K a w)→wpOpIn Fence.wide 0 P ops Q i K a w
theorem OneI.of {P:Program} {C:Ctx} {ops:Array Oper} {o:Oper} {s s':St} (hd:zep o=true) (h:TriL P C ops [o] (After s') s):OneI P C ops o s s':=by
 refine ⟨λbs a w hR Q i K hi hK=>?_⟩;have h1:=h.run bs a w hR;unfold wpOpIn;simp only [hi];unfold wpList at h1;split
 ·rename_i hw;rw [if_pos hw] at h1;rcases h1 with h1 | ⟨_,a1,w1,h1⟩
  ·exact Oper.wpIn_wide (.inl rfl) (zgr hd) (Oper.wp_after hK h1)
  ·rcases h1 with ⟨bs',s1,⟨h,_⟩,hR⟩ | ⟨h,_⟩ <;> cases h
 ·rename_i hw;rw [if_neg hw] at h1;refine ⟨λ_ _=>trivial,?_⟩;rcases h1 with ⟨bs',s1,⟨_,rfl⟩,hR⟩ | ⟨h,_⟩
  ·exact hK _ _ ⟨bs',hR⟩
  ·cases h
structure TriI (P:Program) (C:Ctx) (ops:Array Oper) (fuel:Nat) (listed:Array Bool) (Q:Exit→St→Prop) (s:St):Prop where
 run:∀ bs a w,R C bs s a w→wpAnyIn Fence.wide 0 P .any ops (QR C Q) fuel listed a w
theorem TriI.done {P C ops listed Q s} (hr:Region.ready .any ops listed=[]) (h:Q .normal s):TriI P C ops 0 listed Q s:=
 ⟨λbs _ _ hR=>⟨hr,.inl ⟨bs,s,h,hR⟩⟩⟩
inductive NextI (P:Program) (C:Ctx) (ops:Array Oper) (fuel:Nat) (listed:Array Bool) (Q:Exit→St→Prop) (s:St):List Nat→Prop
 | nil:NextI P C ops fuel listed Q s []
 | cons {i:Nat} {o:Oper} {s':St} {is:List Nat}:ops.toList[i]? = some o→OneI P C ops o s s'→TriI P C ops fuel (listed.setIfInBounds i true) Q s'→NextI P C ops fuel listed Q s is→NextI P C ops fuel listed Q s (i::is)
theorem TriI.step {P C ops fuel listed Q s} (i is) (hr:Region.ready .any ops listed=i::is) (h:NextI P C ops fuel listed Q s (i::is)):TriI P C ops (fuel+1) listed Q s:=by
 refine ⟨λbs a w hR=>⟨λh0=>(by rw [hr] at h0;cases h0),?_⟩⟩;rw [hr];clear hr;generalize i::is=rs at h
 induction h with
 | nil=>intro j hj;cases hj
 | cons h1 h2 h3 _ ih=>
  intro j hj;rcases yI.1 hj with rfl | hj
  ·exact h2.run bs a w hR _ _ _ (by simpa using h1) λa w ⟨bs',hR'⟩=>h3.run bs' a w hR'
  ·exact ih j hj
structure Wants (C:Ctx) (ops:Array Oper) (o:Oper) (s:St) (b:Bool):Prop where
 run:∀ bs a w,R C bs s a w→Region.wanted o (yielded ops a.tmps)=b
theorem Wants.none {C ops o s} (h:o.guard=none):Wants C ops o s true:=⟨λ_ _ _ _=>by simp [Region.wanted,h]⟩
theorem Wants.some {C:Ctx} {ops:Array Oper} {o:Oper} {s:St} {j g:Nat} {want b r:Bool} (h:(o.guard,(ops.toList[j]?).bind (·.dst),look g s.T,b==want)=(some (j,want),some g,some (.d (.bool b)),r)):Wants C ops o s r:=by
 simp only [yx] at h;obtain ⟨h1,h2,h3,rfl⟩:=h;refine ⟨λbs a w hR=>?_⟩;have h4:=hR.tmp g _ h3;have hlt:g<a.tmps.size:=by rw [hR.size];exact h4.1
 have h5:=zr.1 h4.2;have h6:a.tmps[g]? = Option.some (Value.bool b):=by rw [← h5];simp [yP,hlt]
 have h7:(ops[j]?).bind (·.dst)=Option.some g:=by simpa using h2
 simp only [Region.wanted,h1,yielded,h7,ya,h6];cases b <;> cases want <;> rfl
theorem TriI.first {P C ops fuel listed Q s o x v} (i) (hi0:ops.toList[i]? = some o) (hs:(Region.noSelect ops,Region.free .any ops listed i,(Region.ready .any ops listed).contains i)=(true,true,true))
  (ho:(o.op,ev s.T x,dstOK o.dst C.n)=(.move x,some v,true)) (hw:Wants C ops o s true) (h2:TriI P C ops fuel (listed.setIfInBounds i true) (zba Q) (s.put o.dst v)):TriI P C ops (fuel+1) listed (zba Q) s:=by
 simp only [yx] at hs ho;have hi:ops[i]? = some o:=by simpa using hi0
 refine ⟨λbs a w hR=>?_⟩;have hrun:∀ w',(execOp a.eval o).run P w' = .ok (.value (a.eval x)) w':=λw'=>by simp [execOp,ho.1]
 refine wpAnyIn_take (v:=a.eval x) rfl hi hs.1 hs.2.1 hs.2.2 (λc a w h=>?_) ⟨.inl ⟨hw.run bs a w hR,hrun⟩,λw'=>by simp [Oper.about,ho.1]⟩ ?_
 ·rcases h with ⟨_,_,h,_⟩ | ⟨h,_⟩
  ·exact h.elim
  ·cases h
 ·exact h2.run bs _ _ (hR.put (Fr.refl _ _) o.dst ho.2.2 (hR.ev ho.2.1))
theorem TriI.skip {P C ops fuel listed Q s o} (i) (hi0:ops.toList[i]? = some o) (hs:(Region.noSelect ops,Region.free .any ops listed i,(Region.ready .any ops listed).contains i)=(true,true,true))
  (ho:dstOK o.dst C.n=true) (hab:(match o.op with | .call _=>false | _=>true)=true) (hw:Wants C ops o s false) (h2:TriI P C ops fuel (listed.setIfInBounds i true) (zba Q) (s.put o.dst .junk)):TriI P C ops (fuel+1) listed (zba Q) s:=by
 simp only [yx] at hs;have hi:ops[i]? = some o:=by simpa using hi0
 refine ⟨λbs a w hR=>?_⟩;refine wpAnyIn_take (v:=Go.undef) rfl hi hs.1 hs.2.1 hs.2.2 (λc a w h=>?_) ⟨.inr ⟨hw.run bs a w hR,rfl⟩,λw'=>?_⟩ ?_
 ·rcases h with ⟨_,_,h,_⟩ | ⟨h,_⟩
  ·exact h.elim
  ·cases h
 ·unfold Oper.about;cases hop:o.op <;> first | rfl | (rw [hop] at hab;cases hab)
 ·exact h2.run bs _ _ (hR.put (Fr.refl _ _) o.dst ho (v:=.junk) (by simp only [V.rep]))
theorem Tri.drawI {P C Q s id l} (n) (hm:P.follows .mixedOrders=true) (hn:l.size=n) (h:TriI P C l n (Array.replicate n false) (zba Q) s):Tri P C (.region id l true) Q s:=by
 subst hn;refine Tri.mono (Q:=zba Q) ⟨λbs a w hR=>?_⟩ (λe s hq=>by cases e <;> first | exact hq.elim | exact hq);exact (wpIn_wide (n:=0)).1 (wpIn_region_any hm (h.run bs a _ hR.drew))
end
def Serves (C:Ctx) (l:Nat) (rec:Loop) (T1:List (Nat×V)):Prop:=C.own0 l∧∀ q∈T1,(q.2,rec.tmps.getD q.1 Go.undef)∈C.gh
theorem look_mem {T t v} (h:look t T=some v):(t,v)∈T:=by
 induction T with
 | nil=>simp [look] at h
 | cons p r ih=>
  obtain ⟨u,x⟩:=p;simp only [zbc] at h;split at h <;> rename_i e
  ·cases h;subst e;simp
  ·exact un _ (ih h)
theorem OneI.yield {G1 G2:Globs} [D0:Drw] {l:Nat} {rec:Loop} {P:Program} {C:Ctx} {ops:Array Oper} {o:Oper} {T:List (Nat×V)} {H H':List Blk} {x y:Operand} {tys:Array TypeId} {d:D} {p N ia ib ic:Nat} {ra rb:List Oper} {T1:List (Nat×V)}
  (hGs : @Globs.gs G2=(l,.loop rec)::@Globs.gs G1) (hGE:∀ q∈@Globs.gs G1,q.1≠l) (hrec:rec.state = .ready∧rec.pending=none∧rec.params = #[p]∧rec.tmps.size=N) (hasg:rec.assign = .region ia ra.toArray false) (hbd:rec.body = .block ib (.region ic rb.toArray false))
  (hda:(ra.all zep)=true) (hdb:(rb.all zep)=true) (hs:Serves C l rec T1) (hTN:(T1.all λq=>Nat.blt q.1 N)=true) (hpN:Nat.blt p N=true) (hp1:(T1.all λq=>q.1 != p)=true)
  (ho:o.op = .call { callee:=.value x,args:=#[y],argTypes:=tys }) (hx:ev T x=some (.d (.fn (.yield l) [] []))) (hy:ev T y=some (.d d)) (hd:dstOK o.dst C.n=true)
  (hw : @Wants G2 D0 C ops o ⟨T,H⟩ true) (hu:(T.all λq=>q.2.under H.length)=true) (hgn:Nat.ble C.gn H.length=true)
  (h:∀ (own0:Nat→Prop) (w:World) (gh:List (V×Value)),@TriL G1 D0 P ⟨C.A0,own0,w,N,λ_ _=>False,gh,H.length,[]⟩ ra.toArray ra (λe s1=>e = .normal∧∀ (own0:Nat→Prop) (w:World),
   @TriL G1 D0 P ⟨C.A0,own0,w,N,λ_ _=>False,gh,H.length,[]⟩ rb.toArray rb (λe s2=>e = .normal∧s2.H=H') s1) ⟨(p,.d d)::T1,H⟩) :
  @OneI G2 D0 P C ops o ⟨T,H⟩ ((⟨T,H'⟩:St).put o.dst (.d (.bool true))):=by
 obtain ⟨hst,hpe,hps,hsz⟩:=hrec;refine @OneI.mk G2 D0 _ _ _ _ _ _ λbs a w hR Q i K hi hK=>?_
 have hwant:=@Wants.run G2 D0 _ _ _ _ _ hw bs a w hR;have e1:=@R.ev G2 D0 _ _ _ _ _ hR _ _ hx;have e2:=@R.ev G2 D0 _ _ _ _ _ hR _ _ hy;obtain ⟨⟨o1,o2,o3,o4,og⟩,rlen,rblk,rtmp,rdef,rsz,rfr,rnew,rgh⟩:=hR;simp only [V.rep,D.rep,D.reps] at e1;obtain ⟨vs,us,e1,hv0,hu0⟩:=e1;have hv0:vs = #[]:=by simpa using hv0
 have hu0:us = #[]:=by simpa using hu0
 subst hv0 hu0;obtain ⟨hlO,hL⟩:=og (l,.loop rec) (by rw [hGs];simp);simp only at hlO hL;have hlt:l<w.heap.size:=(ym.1 hL).1;unfold wpOpIn;simp only [hi,hwant,if_true];refine ⟨λ_ _=>trivial,?_⟩;obtain ⟨tm1,htm1⟩:∃ tm1,tm1=rec.tmps.setIfInBounds p (a.eval y):=⟨_,rfl⟩
 have hrun:(execOp a.eval o).run P w = .ok (.round l rec.fn tm1 rec.assign rec.body) w:=by
  have hyl:=run_yield (P:=P) (args:=#[a.eval y]) hL (by rw [hps];rfl);rw [hps] at hyl;simp only [execOp,ho,resolve,e1,Deferred.ofValue,Sem.run_bind,Sem.run_pure,Result.andThen_ok,invoke];simpa [htm1] using hyl
 rw [show (o.semAt Fence.wide.round a.eval)=execOp a.eval o from rfl,hrun,Oper.uponIn_round];refine ⟨λh=>by simp [Fence.wide] at h,?_⟩;refine roundIn_of_wpIn trivial ?_;obtain ⟨gh1,hgh1⟩:∃ gh1,gh1=C.gh++vals a T T:=⟨_,rfl⟩
 have hgn:=yi hgn;have hGG:∀ q∈@Globs.gs G1,q∈@Globs.gs G2:=λq hq=>by rw [hGs];exact un _ hq
 have hR1 : @R G1 D0 ⟨C.A0,λb=>some b∈bs,w,N,λ_ _=>False,gh1,H.length,[]⟩ bs ⟨(p,.d d)::T1,H⟩ { tmps:=tm1,defers:=[] } w:=by
  have hpn:p<rec.tmps.size:=by rw [hsz];simpa using hpN
  refine @R.mk G1 D0 _ _ _ _ _ (@OwnOK.mk G1 _ _ _ o1 o2 o3 o4 λq hq=>og q (hGG q hq)) rlen rblk (λt v hv=>?_) rfl (by rw [htm1];simpa using hsz) (Fr.refl _ _) (λb hb=>.inl hb) λq hq=>?_
  ·simp only [zbc] at hv;split at hv <;> rename_i ht
   ·cases hv;subst ht;refine ⟨by rw [← hsz];exact hpn,?_⟩;rw [htm1,zeN _ _ _ _ _ hpn,if_pos rfl];exact e2
   ·have hm:=look_mem hv;have h1:=hs.2 _ hm;have h2:=yo.1 hTN _ hm;refine ⟨by simpa using h2,?_⟩;rw [htm1,zeN _ _ _ _ _ hpn,if_neg ht];exact (rgh _ h1).2
  ·rw [hgh1] at hq;rcases yK.1 hq with hq | hq
   ·exact ⟨V.under_mono hgn _ (rgh q hq).1,(rgh q hq).2⟩
   ·obtain ⟨t,h1,h2⟩:=zir hq;exact ⟨ziH hu h1,by rw [h2];exact (rtmp t _ h1).2⟩
 rw [hasg];refine wpIn_region_lit ?_;refine zfM (F:=Fence.wide.inRound l) (.inr ⟨l,rfl⟩) (Q0:=@QR G1 D0 _ _) ?_ ?_ ra _ _ hda (@TriL.run G1 D0 _ _ _ _ _ _ (h _ _ _) _ _ _ hR1)
 ·rintro e a w (⟨_,_,⟨h,_⟩,_⟩ | ⟨_,h⟩)
  ·exact h
  ·exact h.elim
 rintro a1 w1 (⟨bs1,s1,⟨_,hb⟩,hR1'⟩ | ⟨h,_⟩)
 case inr=>cases h
 simp only [Exit.then];have f1:Fr (λb=>some b∈bs) w w1:=by
  obtain ⟨_,_,_,_,_,_,f,_,_⟩:=hR1';exact f
 have n1:∀ b,some b∈bs1→some b∈bs∨w.heap.size≤b:=by
  obtain ⟨_,_,_,_,_,_,_,f,_⟩:=hR1';exact f
 have hlbs:¬ some l∈bs:=λh=>hlO (.inr h)
 have hL1:w1.heap[l]? = some (.loop rec):=(f1.block l hlt hlbs).trans hL;have hbr:=run_beginRound (P:=P) hL1 hst;refine ⟨_,hbr,?_⟩;obtain ⟨w2,hw2⟩:∃ w2,w2=w1.putObj l (.loop { rec with state:=.busy }):=⟨_,rfl⟩
 rw [← hw2];have t2:Turn w1 w2:=by rw [hw2];exact Turn.put hL1 rfl
 have hs2:w2.heap.size=w1.heap.size:=t2.size;have hlt1:l<w1.heap.size:=(ym.1 hL1).1;have hL2:w2.heap[l]? = some (.loop { rec with state:=.busy }):=by rw [hw2];exact World.putObj_heap_same hlt1
 have hput2:∀ q,q≠l→w2.heap[q]? = w1.heap[q]?:=λq hq=>by rw [hw2];exact World.putObj_heap_other hq
 have hR2 : @R G1 D0 ⟨C.A0,λb=>some b∈bs1,w2,N,λ_ _=>False,gh1,H.length,[]⟩ bs1 s1 a1 w2:=by
  have hg1 : @zd1 G1 (Own C.A0 bs1) w1:=by
   obtain ⟨⟨_,_,_,_,g⟩,_⟩:=hR1';exact g
  exact R.turn hR1' t2 rfl rfl rfl rfl rfl (Fr.refl _ _) (λb hb=>.inl hb) λq hq=>⟨(hg1 q hq).1,by rw [hput2 _ (hGE q hq)];exact (hg1 q hq).2⟩
 rw [hbd];refine wpIn_block (wpIn_region_lit ?_);refine zfM (F:=Fence.wide.inRound l) (.inr ⟨l,rfl⟩) (Q0:=@QR G1 D0 _ _) ?_ ?_ rb _ _ hdb (@TriL.run G1 D0 _ _ _ _ _ _ (hb _ _) _ _ _ hR2)
 ·rintro e a w (⟨_,_,⟨h,_⟩,_⟩ | ⟨_,h⟩)
  ·exact h
  ·exact h.elim
 rintro a2 w3 (⟨bs2,s2,⟨_,hH⟩,hR3⟩ | ⟨h,_⟩)
 case inr=>cases h
 simp only [Exit.inBlock,roundPost];have f3:Fr (λb=>some b∈bs1) w2 w3:=by
  obtain ⟨_,_,_,_,_,_,f,_,_⟩:=hR3;exact f
 have n3:∀ b,some b∈bs2→some b∈bs1∨w2.heap.size≤b:=by
  obtain ⟨_,_,_,_,_,_,_,f,_⟩:=hR3;exact f
 have hlbs1:¬ some l∈bs1:=λh=>(n1 l h).elim hlbs (λh=>by omega)
 have hlbs2:¬ some l∈bs2:=λh=>(n3 l h).elim hlbs1 (λh=>by omega)
 have hL3:w3.heap[l]? = some (.loop { rec with state:=.busy }):=(f3.block l (by omega) hlbs1).trans hL2;have her:=run_endRound (P:=P) none hL3;have hback:({ { rec with state:=LoopState.busy } with state:=if (none:Option Code).isNone then LoopState.ready else LoopState.done,pending:=none }:Loop)=rec:=by
  cases rec;simp only at hst hpe;subst hst hpe;rfl
 rw [hback] at her;refine ⟨_,_,her,hK _ _ ⟨bs2,?_⟩⟩;obtain ⟨w4,hw4⟩:∃ w4,w4=w3.putObj l (.loop rec):=⟨_,rfl⟩
 rw [← hw4];have t4:Turn w3 w4:=by rw [hw4];exact Turn.put hL3 rfl
 have hlt3:l<w3.heap.size:=(ym.1 hL3).1;have hL4:w4.heap[l]? = some (.loop rec):=by rw [hw4];exact World.putObj_heap_same hlt3
 have hput4:∀ q,q≠l→w4.heap[q]? = w3.heap[q]?:=λq hq=>by rw [hw4];exact World.putObj_heap_other hq
 obtain ⟨⟨p1,p2,p3,p4,pg⟩,plen,pblk,ptmp,pdef,psz,pfr,pnew,pgh⟩:=hR3;have hRC : @R G2 D0 C bs2 ⟨T,H'⟩ a w4:=by
  subst hH;refine @R.mk G2 D0 _ _ _ _ _ (@OwnOK.mk G2 _ _ _ p1 p2 (λb hb=>by rw [t4.size];exact p3 b hb) (λb hb=>by rw [t4.size];exact p4 b hb) λq hq=>?_) plen (λi k hk=>Blk.rep_turn t4 i k (pblk i k hk)) (λt v hv=>?_) rdef rsz ?_ (λb hb=>?_) λq hq=>?_
  ·rw [hGs] at hq;rcases yI.1 hq with rfl | hq
   ·exact ⟨λh=>h.elim (λh=>hlO (.inl h)) hlbs2,hL4⟩
   ·exact ⟨(pg q hq).1,by rw [hput4 _ (hGE q hq)];exact (pg q hq).2⟩
  ·exact ⟨(rtmp t v hv).1,V.rep_turn t4 _ _ (pgh _ (by rw [hgh1];exact List.mem_append_right _ (zhY hv hv))).2⟩
  ·have hfr1:Fr (λb=>some b∈bs∨b=l∨some b∈bs1) w w4:=by
    have g1:Fr (λb=>some b∈bs∨b=l∨some b∈bs1) w w1:=f1.mono λ_ _ h=>.inl h
    have g2:Fr (λb=>some b∈bs∨b=l∨some b∈bs1) w1 w2:=by rw [hw2];exact ⟨rfl,rfl,rfl,by simp,λb _ hn=>World.putObj_heap_other (λe=>hn (.inr (.inl e))),λ_=>yn _⟩
    have g3:Fr (λb=>some b∈bs∨b=l∨some b∈bs1) w2 w3:=f3.mono λ_ _ h=>.inr (.inr h)
    have g4:Fr (λb=>some b∈bs∨b=l∨some b∈bs1) w3 w4:=by rw [hw4];exact ⟨rfl,rfl,rfl,by simp,λb _ hn=>World.putObj_heap_other (λe=>hn (.inr (.inl e))),λ_=>yn _⟩
    exact ((g1.trans g2).trans g3).trans g4
   refine ⟨hfr1.os.trans rfr.os,hfr1.tape.trans rfr.tape,hfr1.output.trans rfr.output,ue rfr.size hfr1.size,λq hq hno=>?_,λd=>ue (rfr.drawn d) (hfr1.drawn d)⟩;refine (hfr1.block q (yL hq rfr.size) λe=>?_).trans (rfr.block q hq hno);have hbs:¬ some q∈bs:=λh=>(rnew q h).elim hno (λh=>by omega)
   rcases e with e | e | e
   ·exact hbs e
   ·exact hno (by rw [e];exact hs.1)
   ·exact (n1 q e).elim hbs (λh=>by have:=rfr.size;omega)
  ·have hsz1:=f1.size;have hsz0:=rfr.size;rcases n3 b hb with h1 | h1
   ·rcases n1 b h1 with h1 | h1
    ·exact rnew b h1
    ·exact .inr (by omega)
   ·exact .inr (by omega)
  ·exact ⟨(rgh q hq).1,V.rep_turn t4 _ _ (pgh q (by rw [hgh1];exact List.mem_append_left _ hq)).2⟩
 exact @R.put G2 D0 _ _ _ _ _ _ hRC (Fr.refl _ _) o.dst hd (.d (.bool true)) (.bool true) (zr.2 rfl)
theorem Tri.rangeFunc {G0:Globs} [D0:Drw] {P:Program} {fnC:Func} {A:Nat→Prop} {w0:World} {n N p b0:Nat} {y:D} {s0:St} {T:List (Nat×V)} {H:List Blk} {g:Operand} {x asg body tail:Code} {fi:FuncId} {fs:List D} {fn:Func} {c:Code} {Q:Exit→St→Prop} {K:List Blk→Prop}
  (hx0 : @Tri G0 D0 P ⟨A,zd,w0,n,λ_ _=>False,[],0,[]⟩ x (λe s=>e = .normal∧s=⟨T,H⟩) s0) (hx:ev T g=some (.d (.fn (.func fi) fs []))) (hc:callable P fi=true) (hf:P.funcs[fi]? = some fn) (hb:fn.body=some c) (hN:fn.ntmps=N) (hres:fn.results = #[])
  (hn:Nat.ble (fs.length+1) N=true) (hu:(T.all λq=>q.2.under H.length)=true)
  (h:∀ (l Dd:Nat) (rec:Loop) (own0:Nat→Prop) (w:World) (gh:List (V×Value)) (G':Globs),l≠Dd→@Globs.gs G'=(l,.loop rec)::(Dd,.deferred (some []))::@Globs.gs G0→(∀ q∈@Globs.gs G0,q.1≠l)→(rec.state = .ready∧rec.pending=none∧rec.params = #[p]∧rec.tmps.size=n) →
   rec.assign=asg→rec.body=body→own0 l→(∀ t v,look t T=some v→(v,rec.tmps.getD t Go.undef)∈gh) →
   @Tri G' D0 P ⟨A,own0,w,N,λ_ _=>False,gh,H.length,[]⟩ c (retV [] λ_ H2=>K H2) ⟨zdY 0 (fs.map .d++[.d (.fn (.yield l) [] [])]),H⟩)
  (k:∀ (Dd:Nat) (H2:List Blk) (G':Globs),@Globs.gs G'=(Dd,.deferred (some []))::@Globs.gs G0→K H2→@Tri G' D0 P ⟨A,zd,w0,n,λ_ _=>False,[],0,[{ target:=.collected Dd,args:=#[] }]⟩ tail (λe s=>e = .ret∧retQ P fnC.results y e s) ⟨T,H2⟩) :
  @Tri G0 D0 P ⟨A,zd,w0,n,λa' w'=>LeavesInM Fence.wide 0 P fnC a'.tmps (zgt A w0 y) a'.defers .returning w',[],0,[]⟩ (.seq (.seq x (.block b0 (.rangeFunc g #[p] asg body))) tail) Q s0:=by
 subst hN;have hn:=yi hn;refine @Tri.mk G0 D0 _ _ _ _ _ λbs a w' hR=>?_
 have hR0 : @R G0 D0 ⟨A,zd,w0,n,λ_ _=>False,[],0,[]⟩ bs s0 a w':=by
  obtain ⟨q1,q2,q3,q4,q5,q6,q7,q8,q9⟩:=hR;exact @R.mk G0 D0 _ _ _ _ _ q1 q2 q3 q4 q5 q6 q7 q8 q9
 refine wp_seq (wp_seq (Code.wp_mono ?_ (@Tri.run G0 D0 _ _ _ _ _ hx0 bs a w' hR0)));rintro e a w3 (⟨bs,s,⟨rfl,rfl⟩,hR⟩ | ⟨_,hE⟩)
 case inr=>exact hE.elim
 simp only [Exit.then];clear hR0;have e1:=@R.ev G0 D0 _ _ _ _ _ hR _ _ hx;have hRf:=λ{w'} (f:Fr zd w3 w')=>@R.put G0 D0 _ _ _ _ _ _ hR f none rfl .junk Go.undef (by simp only [V.rep])
 obtain ⟨⟨o1,o2,o3,o4,og⟩,rlen,rblk,rtmp,rdef,rsz,rfr,rnew,rgh⟩:=hR;simp only [V.rep,D.rep] at e1;obtain ⟨vs,us,e1,hvs,hus⟩:=e1;simp only [D.reps] at hus;have hus:us = #[]:=by simpa using hus
 subst hus;refine (wpIn_wide (n:=0)).1 (wpIn_block (wpIn_rangeFunc ?_));intro fnid _;obtain ⟨rec,hrec⟩:∃ rec:Loop,rec = { state:=.ready,pending:=none,fn:=fnid,tmps:=a.tmps,params:=#[p],assign:=asg,body:=body,defers:=w3.heap.size }:=⟨_,rfl⟩
 obtain ⟨l,hl⟩:∃ l,l=w3.heap.size+1:=⟨_,rfl⟩
 obtain ⟨Dd,hDd⟩:∃ Dd,Dd=w3.heap.size:=⟨_,rfl⟩
 obtain ⟨w4,hw4⟩:∃ w4,(w3.alloc (.deferred (some []))).alloc (.loop rec)=w4:=⟨_,rfl⟩
 have hold:∀ q,q<w3.heap.size→w4.heap[q]? = w3.heap[q]?:=λq hq=>by rw [← hw4];exact (Below.heap_alloc _ _ q (by simp;omega)).trans (Below.heap_alloc _ _ q hq)
 have hL4:w4.heap[l]? = some (.loop rec):=by rw [← hw4,hl];have:=World.alloc_heap_new (w3.alloc (.deferred (some []))) (.loop rec);rwa [World.size_alloc] at this
 have hD4:w4.heap[Dd]? = some (.deferred (some [])):=by rw [← hw4,hDd];exact (Below.heap_alloc _ _ _ (by simp)).trans (World.alloc_heap_new w3 _)
 have hs4:w4.heap.size=w3.heap.size+2:=by rw [← hw4];simp
 have hfr4:Fr zd w3 w4:=by
  rw [← hw4];exact (⟨rfl,rfl,rfl,by simp,λb hb _=>Below.heap_alloc _ _ b hb,λ_=>yn _⟩:Fr zd w3 (w3.alloc (.deferred (some [])))).trans ⟨rfl,rfl,rfl,by simp,λb hb _=>Below.heap_alloc _ _ b hb,λ_=>yn _⟩
 refine ⟨l,[{ target:=.collected Dd,args:=#[] }],w4,{ target:=.fn (.func fi) #[],args:=vs++#[.func (.yield l) #[] #[]] },w4,fi,vs++#[.func (.yield l) #[] #[]]++#[],w4,?_,?_,λ_ _=>trivial,?_,λh=>by simp [Fence.wide] at h,?_⟩
 ·rw [← hw4,hl,hDd,hrec];exact run_enterLoop_outer _ _ _ _ _
 ·have ek:∀ v,a.eval (.const v)=v:=λ_=>rfl
  simp [resolve,e1,Deferred.ofValue,ek]
 ·simp only [invoke];exact zbt hc _ w4
 have hR4:=hRf hfr4;obtain ⟨⟨q1,q2,q3,q4,qg⟩,qlen,qblk,qtmp,qdef,qsz,qfr,qnew,_⟩:=hR4;have hlA:¬ Own A bs l:=λh=>by
  rcases h with h | h
  ·have:=o4 l h;omega
  ·have:=o3 l h;omega
 have hDA:¬ Own A bs Dd:=λh=>by
  rcases h with h | h
  ·have:=o4 Dd h;omega
  ·have:=o3 Dd h;omega
 have hgl:∀ q∈@Globs.gs G0,q.1<w3.heap.size:=λq hq=>(ym.1 (og q hq).2).1
 obtain ⟨G',hG'⟩:∃ G':Globs,@Globs.gs G'=(l,.loop rec)::(Dd,.deferred (some []))::@Globs.gs G0:=⟨⟨_⟩,rfl⟩
 obtain ⟨GD,hGD⟩:∃ G':Globs,@Globs.gs G'=(Dd,.deferred (some []))::@Globs.gs G0:=⟨⟨_⟩,rfl⟩
 have hargs:(vs++#[Value.func (.yield l) #[] #[]]++#[]:Array Value)=vs++#[Value.func (.yield l) #[] #[]]:=by simp
 rw [hargs];have hvl:=D.reps_len hvs;simp only [yC] at hvl;have hreps:V.reps (Own A bs) w4 bs H (fs.map .d++[.d (.fn (.yield l) [] [])]) (vs++#[Value.func (.yield l) #[] #[]]:Array Value).toList:=by
  simp only [Array.toList_append];refine V.reps_append ?_ ?_
  ·have:=D.reps_ext hfr4 hvs;have key:∀ (ds:List D) (vs:List Value),D.reps (Own A bs) w4 ds vs→V.reps (Own A bs) w4 bs H (ds.map .d) vs:=by
    intro ds
    induction ds with
    | nil=>intro vs h;simpa only [D.reps,List.map_nil,V.reps] using h
    | cons d ds ih=>
     intro vs h;simp only [D.reps] at h;obtain ⟨v,vs',rfl,h1,h2⟩:=h;simp only [yM,V.reps,V.rep];exact ⟨v,vs',rfl,h1,ih _ h2⟩
   exact key _ _ this
  ·simp [V.reps,V.rep,D.rep,D.reps]
 have hRi : @R G' D0 ⟨A,λb=>some b∈bs∨b=l,w4,fn.ntmps,λ_ _=>False,vals a T T,H.length,[]⟩ bs ⟨zdY 0 (fs.map .d++[.d (.fn (.yield l) [] [])]),H⟩ { tmps:=(vs++#[Value.func (.yield l) #[] #[]])++Array.replicate (fn.ntmps - (vs++#[Value.func (.yield l) #[] #[]]).size) undef,defers:=[] } w4:=by
  have hsz:((vs++#[Value.func (.yield l) #[] #[]])++Array.replicate (fn.ntmps - (vs++#[Value.func (.yield l) #[] #[]]).size) undef).size=fn.ntmps:=by simp;omega
  refine @R.mk G' D0 _ _ _ _ _ (@OwnOK.mk G' _ _ _ q1 q2 q3 q4 λq hq=>?_) qlen qblk (λt v hv=>?_) rfl hsz (Fr.refl _ _) (λb hb=>.inl (.inl hb)) λq hq=>?_
  ·rw [hG'] at hq;rcases yI.1 hq with rfl | hq
   ·exact ⟨hlA,hL4⟩
   rcases yI.1 hq with rfl | hq
   ·exact ⟨hDA,hD4⟩
   ·exact qg q hq
  ·have:=zgs _ 0 _ ((vs++#[Value.func (.yield l) #[] #[]])++Array.replicate (fn.ntmps - (vs++#[Value.func (.yield l) #[] #[]]).size) undef) hreps
    (λj hj=>by
     have hj':j<(vs++#[Value.func (.yield l) #[] #[]]).size:=by simpa using hj
     rw [uq,yP,Array.getElem?_append_left hj',List.getD,yY])
    (by rw [hsz];simp;omega) t v hv
   rw [hsz] at this;exact this
  ·obtain ⟨t,h1,h2⟩:=zir hq;exact ⟨ziH hu h1,by rw [h2];exact (qtmp t _ h1).2⟩
 have htri:=h l Dd rec (λb=>some b∈bs∨b=l) w4 (vals a T T) G' (by omega) hG' (λq hq=>by have:=hgl q hq;omega) (by rw [hrec];exact ⟨rfl,rfl,rfl,rsz⟩) (by rw [hrec]) (by rw [hrec]) (.inr rfl) (λt v hv=>by rw [hrec];exact zhY hv hv);refine callsIn_wide.2 (calls_of_wp hf hb (Code.wp_mono ?_ (@Tri.run G' D0 _ _ _ _ _ htri bs _ w4 hRi)));rintro e a' w5 (⟨bs',s',⟨he,ys,hys,hk⟩,hR5⟩ | ⟨_,hE⟩)
 case inr=>exact hE.elim
 obtain ⟨⟨p1,p2,p3,p4,pg⟩,plen,pblk,ptmp,pdef,psz,pfr,pnew,pgh⟩:=hR5;have hrun:(results fn a'.tmps).run P w5 = .ok (.tuple #[]) w5:=by
  rw [zdz,hres];simp [Sem.run_bind,Sem.run_pure]
 have hfin:rangePost Fence.wide 0 P l (Exit.inBlock b0 (Exit.then (tail.wp P (@QR G0 D0 ⟨A,zd,w0,n,λa' w'=>LeavesInM Fence.wide 0 P fnC a'.tmps (zgt A w0 y) a'.defers .returning w',[],0,[]⟩ Q)) (@QR G0 D0 ⟨A,zd,w0,n,λa' w'=>LeavesInM Fence.wide 0 P fnC a'.tmps (zgt A w0 y) a'.defers .returning w',[],0,[]⟩ Q))) { a with defers:=[{ target:=.collected Dd,args:=#[] }]++a.defers } (.returned (.tuple #[])) w5:=by
  have hL5:=(pg (l,.loop rec) (by rw [hG'];simp)).2;have hD5:=(pg (Dd,.deferred (some [])) (by rw [hG'];simp)).2;simp only at hL5 hD5;simp only [rangePost];refine ⟨none,w5.putObj l (.loop { rec with state:=.exhausted }),by have:=run_endLoop (P:=P) hL5 (by rw [hrec];simp);rw [this,hrec],?_⟩;simp only [Exit.inBlock,Exit.then];obtain ⟨w6,hw6⟩:∃ w6,w6=w5.putObj l (.loop { rec with state:=.exhausted }):=⟨_,rfl⟩
  rw [← hw6];have t6:Turn w5 w6:=by rw [hw6];exact Turn.put hL5 rfl
  have hput6:∀ q,q≠l→w6.heap[q]? = w5.heap[q]?:=λq hq=>by rw [hw6];exact World.putObj_heap_other hq
  have hlbs':∀ b,some b∈bs'→(some b∈bs∨b=l)∨w4.heap.size≤b:=pnew;have hR6 : @R GD D0 ⟨A,zd,w0,n,λ_ _=>False,[],0,[{ target:=.collected Dd,args:=#[] }]⟩ bs' ⟨T,s'.H⟩ { a with defers:=[{ target:=.collected Dd,args:=#[] }]++a.defers } w6:=by
   refine @R.mk GD D0 _ _ _ _ _ (@OwnOK.mk GD _ _ _ p1 p2 (λb hb=>by rw [t6.size];exact p3 b hb) (λb hb=>by rw [t6.size];exact p4 b hb) λq hq=>?_) plen (λi k hk=>Blk.rep_turn t6 i k (pblk i k hk)) (λt v hv=>?_) (by simp only;rw [rdef];rfl) rsz ?_ (λb hb=>?_) (λq hq=>(by cases hq))
   ·rw [hGD] at hq;have hq':q∈@Globs.gs G':=by rw [hG'];exact un _ hq
    have hne:q.1≠l:=by
     rcases yI.1 hq with rfl | hq
     ·simp only;omega
     ·have:=hgl q hq;omega
    exact ⟨(pg q hq').1,by rw [hput6 _ hne];exact (pg q hq').2⟩
   ·exact ⟨(rtmp t v hv).1,V.rep_turn t6 _ _ (pgh _ (zhY hv hv)).2⟩
   ·have f5:Fr (λb=>some b∈bs∨b=l) w4 w5:=pfr;have f6:Fr (λb=>some b∈bs∨b=l) w5 w6:=by rw [hw6];exact ⟨rfl,rfl,rfl,by simp,λb _ hn=>World.putObj_heap_other (λe=>hn (.inr e)),λ_=>yn _⟩
    have f46:=(hfr4.mono (W':=λb=>some b∈bs∨b=l) λ_ _ x=>x.elim).trans (f5.trans f6);have rfr':Fr zd w0 w3:=rfr;refine ⟨f46.os.trans rfr'.os,f46.tape.trans rfr'.tape,f46.output.trans rfr'.output,ue rfr'.size f46.size,λq hq hno=>?_,λd=>ue (rfr'.drawn d) (f46.drawn d)⟩;have:=rfr'.size;have hq:q<w0.heap.size:=hq;refine (f46.block q (by omega) λe=>?_).trans (rfr'.block q hq hno);rcases e with e | e
    ·have h3:zd q∨w0.heap.size≤q:=rnew q e;exact h3.elim (λx=>x) (λh=>by omega)
    ·omega
   ·have hz:w0.heap.size≤w3.heap.size:=rfr.size;rcases hlbs' b hb with (h1 | h1) | h1
    ·exact rnew b h1
    ·exact .inr (by simp only;omega)
    ·exact .inr (by simp only;omega)
  have hR6' : @R GD D0 ⟨A,zd,w0,n,λ_ _=>False,[],0,[{ target:=.collected Dd,args:=#[] }]⟩ bs' ⟨T,s'.H⟩ { a with defers:=[{ target:=.collected Dd,args:=#[] }]++a.defers } w6:=hR6;refine Code.wp_mono ?_ (@Tri.run GD D0 _ _ _ _ _ (k Dd s'.H GD hGD hk) _ _ _ hR6');rintro e a7 w7 (⟨bs7,s7,⟨rfl,he7,ds,hy7,hres7⟩,hR7⟩ | ⟨_,hE⟩)
  case inr=>exact hE.elim
  refine .inr ⟨rfl,?_⟩;have hg7 : @zd1 GD (Own A bs7) w7:=by
   obtain ⟨⟨_,_,_,_,g⟩,_⟩:=hR7;exact g
  have hdf7:a7.defers=[{ target:=.collected Dd,args:=#[] }]:=by
   obtain ⟨_,_,_,_,d,_⟩:=hR7;exact d
  have hfr7:Fr zd w0 w7:=by
   obtain ⟨_,_,_,_,_,_,f,_,_⟩:=hR7;exact f
  have hnew7:∀ b,some b∈bs7→zd b∨w0.heap.size≤b:=by
   obtain ⟨_,_,_,_,_,_,_,f,_⟩:=hR7;exact f
  have hD7:=(hg7 (Dd,.deferred (some [])) (by rw [hGD];simp)).2;simp only at hD7;obtain ⟨w8,hw8⟩:∃ w8,w8=w7.putObj Dd (.deferred none):=⟨_,rfl⟩
  have hput8:∀ q,q≠Dd→w8.heap[q]? = w7.heap[q]?:=λq hq=>by rw [hw8];exact World.putObj_heap_other hq
  have hfr8:Fr zd w0 w8:=by
   have hz:w0.heap.size≤w3.heap.size:=rfr.size;refine ⟨by rw [hw8];exact hfr7.os,by rw [hw8];exact hfr7.tape,by rw [hw8];exact hfr7.output,by rw [hw8];simpa using hfr7.size,λq hq hno=>(hput8 q (by omega)).trans (hfr7.block q hq hno),by rw [hw8];exact hfr7.drawn⟩
  have hR8:=R.turn (G':=G0) (C':=⟨A,zd,w0,n,λ_ _=>False,[],0,[{ target:=.collected Dd,args:=#[] }]⟩) hR7 (w':=w8) (by rw [hw8];exact Turn.put hD7 rfl) rfl rfl rfl rfl rfl hfr8 hnew7 λq hq=>by
   have hne:q.1≠Dd:=by have:=hgl q hq;omega
   have:=hg7 q (by rw [hGD];exact un _ hq);exact ⟨this.1,by rw [hput8 _ hne];exact this.2⟩
  obtain ⟨u,hu1,hu2⟩:=@res_of G0 D0 _ _ _ _ _ _ _ _ _ hy7 hres7 hR8;show LeavesInM Fence.wide 0 P fnC a7.tmps (zgt A w0 y) a7.defers .returning w7;rw [hdf7];exact ⟨by simp,.inl ⟨Dd,w8,rfl,by rw [hw8];exact run_takeDeferred hD7,u,hu1,u,rfl,hfr8,hu2⟩⟩
 rcases he with rfl | rfl
 ·exact ⟨pdef,_,hrun,hfin⟩
 ·exact ⟨pdef,_,hrun,hfin⟩
section
variable [Globs] [Drw]
theorem TriI.to {P C ops fuel listed Q s} (listed') (e:listed=listed') (h:TriI P C ops fuel listed' Q s):TriI P C ops fuel listed Q s:=by subst e;exact h
theorem TriI.via {P C ops fuel listed Q s} (f l' s') (h:TriI P C ops f l' Q s') (k:TriI P C ops f l' Q s'→TriI P C ops fuel listed Q s):TriI P C ops fuel listed Q s:=k h
theorem TriI.keepT {P C ops fuel listed Q T K H} (ks) (hK:Looks T ks K) (h:TriI P C ops fuel listed Q ⟨K,H⟩):TriI P C ops fuel listed Q ⟨T,H⟩:=
 ⟨λbs a w hR=>h.run bs a w (hR.weaken hK.sub.look)⟩
theorem TriI.ge {P C ops fuel listed Q s t} (hl:s.ge t) (hgn:Nat.ble C.gn t.H.length=true) (h:TriI P C ops fuel listed Q t):TriI P C ops fuel listed Q s:=
 ⟨λ_ a w hR=>let ⟨bs',hR'⟩:=hR.ge hl hgn;h.run bs' a w hR'⟩
theorem TriL.ge {P C ops rest Q s t} (hl:s.ge t) (hgn:Nat.ble C.gn t.H.length=true) (h:TriL P C ops rest Q t):TriL P C ops rest Q s:=
 ⟨λ_ a w hR=>let ⟨bs',hR'⟩:=hR.ge hl hgn;h.run bs' a w hR'⟩
theorem TriI.cut {P C ops fuel listed Q T H'} (H) (hl:∃ X,H'=H++X) (h1:(H.all (Blk.under H.length))=true) (h2:(T.all λp=>p.2.under H.length)=true) (hT:Sub T T) (hgn:Nat.ble C.gn H.length=true)
  (h:TriI P C ops fuel listed Q ⟨T,H⟩):TriI P C ops fuel listed Q ⟨T,H'⟩:=
 .ge (t:=⟨T,H⟩) (let ⟨X,hX⟩:=hl;⟨X,hX,h1,h2,hT⟩) hgn h
theorem OneI.ofG {P C ops o s s'} (hd:zep o=true) (hw:Wants C ops o s true) (h:TriL P C ops [{ o with guard:=none }] (After s') s):OneI P C ops o s s':=by
 refine ⟨λbs a w hR Q i K hi hK=>?_⟩;have h1:=h.run bs a w hR;have hw:=hw.run bs a w hR;unfold wpOpIn;simp only [hi,hw,if_true];unfold wpList at h1;have h0:Region.wanted { o with guard:=none } (yielded ops a.tmps)=true:=rfl;rw [if_pos h0] at h1;rcases h1 with h1 | ⟨_,a1,w1,h1⟩
 ·have h2:o.wp P a w (QR C (After s') .normal) (QR C (After s')):=h1;exact Oper.wpIn_wide (.inl rfl) (zgr hd) (Oper.wp_after hK h2)
 ·rcases h1 with ⟨bs',s1,⟨h,_⟩,hR⟩ | ⟨h,_⟩ <;> cases h
theorem OneI.no {P C ops o s} (hd:dstOK o.dst C.n=true) (hw:Wants C ops o s false):OneI P C ops o s (s.put o.dst .junk):=by
 refine ⟨λbs a w hR Q i K hi hK=>?_⟩;have hw:=hw.run bs a w hR;unfold wpOpIn;simp only [hi,hw];exact ⟨λ_ _=>trivial,hK _ _ ⟨bs,hR.put (Fr.refl _ _) o.dst hd (v:=.junk) (by simp only [V.rep])⟩⟩
theorem clone_pure {P f fn} {α:Type} {t el} {k bytes:Nat} {enc:α→D} {xs zs:List α} (hf:P.funcs[f]? = some fn) (hbody:fn.body=some (cloneCode t)) (hN:fn.ntmps=8) (hrs:fn.results = #[.tmp 2])
  (ht:zbW P t el k bytes=true) (hb:Nat.blt 0 bytes=true) (hones:∀ z,(enc z).ones=true) (hk:∀ x,(enc x).kOK k=true) (hv:Go.Proofs.YtbnhmfnagdgcmaaGreatDoor.app bytes [] xs=some zs):Pure P f [.sl k (xs.map enc)] (.sl k (zs.map enc)):=by
 have hz:zs=xs:=by have:=(appS hv).1;simpa using this
 have htu:=(zco ht).1;refine Pure.ot hf hbody hN rfl λA w=>?_
 rw [hrs];refine .seq (.region (.op rfl rfl (.assign rfl rfl) (.nil ?_)));refine .seq (.seq (.region (.op rfl rfl (.move rfl rfl) (.eqNil rfl rfl rfl htu rfl λb hxs=>.nil ?_))));refine .cond (t:=b) rfl (λhbt=>?_) (λ_=>.skip ?_)
 ·have hxs:=hxs hbt;have hxs:xs=[]:=by simpa using hxs
  subst hxs;subst hz;refine .seq (.region (.op rfl rfl (.assign rfl rfl) (.nil ?_)));refine .nilVec 2 k el rfl (.ret ?_);exact zaH rfl (.vec rfl rfl)
 ·refine .seq (.region (.buildVec (α:=α) (enc:=enc) [] rfl rfl rfl rfl rfl ht rfl hk (by simp [Nat.ble_eq]) ?_));refine .op rfl rfl (.move rfl rfl) ?_;refine .app rfl rfl rfl rfl rfl rfl rfl rfl ht hb hones hv ?_;refine .op rfl rfl (.assign rfl rfl) (.nil ?_);refine .ret ?_;exact zaH rfl (.vec rfl (by simp))
theorem OpV.makeFunc1 {P o e H g x d} (ho:o.op = .makeFunc (.func g) #[x] #[]) (hx:e x=some (.d d)):OpV P o e H (.d (.fn (.func g) [d] [])):=
 .of_same λA0 bs w f _ hf=>by
  have h1:=hf x (by simp [ho,Op.operands]) _ hx;refine ⟨.func (.func g) #[f x] #[],by simp [execOp,ho,Instr.makeFunc],?_⟩;simp only [V.rep,D.rep,D.reps] at h1 ⊢;exact ⟨#[f x],#[],rfl,⟨f x,[],rfl,h1,rfl⟩,rfl⟩
end
section
open Go Go.RowKit Go.Sort Go.Shelf
variable [Globs] [Drw]
theorem Fr.grow_eq {w w'} (h : @Fr DT zd w w'):∃ q os,w'=grow (w.drewN q) os:=by
 refine ⟨w'.drawn - w.drawn,w'.heap.extract w.heap.size w'.heap.size,?_⟩;obtain ⟨heap,tape,drawn,os,output⟩:=w;obtain ⟨heap',tape',drawn',os',output'⟩:=w';obtain ⟨h1,h2,h3,h4,h5,h6⟩:=h;simp only at h1 h2 h3 h4 h5 h6;have h6:=h6 trivial;subst h1 h2 h3;have e:heap'=heap++heap'.extract heap.size heap'.size:=by
  apply Array.ext_getElem?;intro i;by_cases hi:i<heap.size
  ·rw [Array.getElem?_append_left hi];exact h5 i hi (λx=>x)
  ·rw [Array.getElem?_append_right (by omega),Array.getElem?_extract];simp only [show heap.size+(i - heap.size)=i by omega];by_cases hj:i<heap'.size
   ·rw [if_pos (by omega)]
   ·rw [if_neg (by omega)];exact Array.getElem?_eq_none (by omega)
 simp only [grow,World.drewN,World.mk.injEq];exact ⟨e,trivial,by omega,trivial,trivial⟩
theorem fr_sorted {α:Type} [Inhabited α] {enc:α→Value} {w} {g n:Nat} {os:Array Obj} (d:Array α):Fr (λb=>some g=some b) w (sortWorld enc w g 0 n d os):=by
 refine ⟨rfl,rfl,rfl,by simp [sortWorld],λk hk hne=>?_,λ_=>Nat.le_add_right _ _⟩;unfold sortWorld;rw [heap_grow_old _ _ (by simpa using hk)];have:g≠k:=λe=>hne (by rw [e])
 simp [putRow,mapBlock,Sort.ahead,Array.getElem?_modify,this]
theorem cmp_of_pure {P A w} {k g blk:Nat} (hA:∀ b,A b→b<w.heap.size) (hG:zd1 A w) (hb:A blk) {vals:Fin (k+1)→Value} {encs:Fin (k+1)→D} (hr:∀ i,(encs i).rep A w (vals i)) {cf:Fin (k+1)→Fin (k+1)→Int}
  (hp:∀ i j,@Pure ‹Globs› DT P g [encs i,encs j] (.int (cf i j))):CmpLays1 P g #[] vals cf blk 0 (k+1) w:=by
 intro m os dk _ x y;have f0:Fr (λb=>some blk=some b) w (sortWorld vals w blk 0 m dk os):=fr_sorted dk;have hW:∀ b,some blk=some b→A b:=λb e=>by cases e;exact hb
 have h:=@Pure.run ‹Globs› DT _ _ _ _ (hp x y) A (sortWorld vals w blk 0 m dk os) #[vals x,vals y] (λb hb=>yL (hA b hb) f0.size) (hG.fr f0 hW (λ_ _ h=>h)) (by
  simp only [D.reps];exact ⟨_,_,rfl,D.rep_fr f0 hW (λ_ _ h=>h) _ _ (hr x),_,_,rfl,D.rep_fr f0 hW (λ_ _ h=>h) _ _ (hr y),rfl⟩)
 simp only [Array.append_empty];refine h.mono ?_;rintro e w' ⟨u,rfl,hf,hu⟩;simp only [D.rep] at hu;obtain ⟨q,os',he⟩:=hf.grow_eq;exact ⟨by rw [hu],q,os',he⟩
theorem D.flat_one {A w}:∀ {xs:List D} {cs:List Value},(∀ x∈xs,x.shape=none)→(D.flat A w 1 xs cs↔D.reps A w xs cs)
 | [],cs,_=>by simp only [D.flat,D.reps]
 | x::xs,cs,h=>by
  simp only [D.flat,D.reps];constructor
  ·rintro ⟨u,cs',rfl,hk,h1,h2⟩;have hc:=D.cells_of_one h1 (h x (by simp));refine ⟨u,cs',by rw [hc];rfl,h1,(D.flat_one λy hy=>h y (by simp [hy])).1 h2⟩
  ·rintro ⟨u,cs',rfl,h1,h2⟩;have hc:=D.cells_of_one h1 (h x (by simp));exact ⟨u,cs',by rw [hc];rfl,by rw [hc];rfl,h1,(D.flat_one λy hy=>h y (by simp [hy])).2 h2⟩
theorem D.reps_of_get {A w}:∀ {ds:List D} {vs:List Value},vs.length=ds.length→(∀ (i:Nat) (d:D) (v:Value),ds[i]? = some d→vs[i]? = some v→d.rep A w v)→D.reps A w ds vs
 | [],[],_,_=>by simp only [D.reps]
 | d::ds,v::vs,hl,h=>by
  simp only [D.reps];exact ⟨v,vs,rfl,h 0 d v rfl rfl,D.reps_of_get (by simpa using hl) λi d' v' h1 h2=>h (i+1) d' v' (by simpa using h1) (by simpa using h2)⟩
 | [],_::_,hl,_=>by simp at hl
 | _::_,[],hl,_=>by simp at hl
theorem mapBlock_setRow {w g f cur e fr} (hb:w.heap[g]? = some (.cells cur e fr)):mapBlock w g f=w.setRow g (f cur):=by
 unfold mapBlock World.setRow;congr 1;apply Array.ext_getElem?;intro i;simp only [Array.getElem?_modify];split
 ·rename_i h;subst h;simp [hb,onCells]
 ·rfl
theorem TriL.sort1 {P C ops o rest Q T H} {ρ:Ren} (L:SlLaysF.n6 P ρ) {α:Type} {F} {tys:Array TypeId} {x y el} {i n g:Nat} {enc:α→D} {l r:List α} {cmp:α→α→Option Int}
  (hF:ρ.f 6=F) (hg:o.guard=none) (ho:o.op = .call { callee:=.value (.func F),args:=#[x,y],argTypes:=tys }) (hd:dstOK o.dst C.n=true) (hc:callable P F=true) (hcg:callable P g=true)
  (hx:ev T x=some (.vec i n)) (hy:ev T y=some (.d (.fn (.func g) [] []))) (hi:H[i]? = some (.vec el 1 (l.map enc))) (hn:n=l.length) (h1:∀ x,(enc x).shape=none) (h2:∀ x,(enc x).ones=true) (hs:sortO cmp l=some r)
  (hp:∀ a b v,cmp a b=some v→@Pure ‹Globs› DT P g [enc a,enc b] (.int v))
  (kk:TriL P C ops rest Q ((⟨T,H.set i (.vec el 1 (r.map enc))⟩:St).put o.dst .junk)):TriL P C ops (o::rest) Q ⟨T,H⟩:=by
 subst hF;obtain ⟨hsome,hswo,hlen,rfl⟩:=sortO_some hs;refine ⟨λbs a w hR=>wpList_plain hg λK hK=>?_⟩;have hxr:=hR.ev hx;have hyr:=hR.ev hy;simp only [V.rep,hi] at hxr;simp only [V.rep,D.rep,D.reps] at hyr;obtain ⟨vs,us,hyv,hv0,hu0⟩:=hyr;have hv0:vs = #[]:=by simpa using hv0
 have hu0:us = #[]:=by simpa using hu0
 subst hv0 hu0;obtain ⟨cells,hown,hbs,hflat⟩:=hxr.2 (by simpa using hn);have hrun:(execOp a.eval o).run P w = .ok (.enter (ρ.f 6) #[a.eval x,a.eval y]) w:=by
  have hk:∀ k,a.eval (.func k) = .func (.func k) #[] #[]:=λ_=>rfl
  simp only [execOp,ho,resolve,hk,Deferred.ofValue,Sem.run_bind,Sem.run_pure,Result.andThen_ok,invoke];simpa using zbt hc #[a.eval x,a.eval y] w
 have hR':∀ {w':World} {H':List Blk} {u:Value},R C bs ⟨T,H'⟩ a w'→R C bs ((⟨T,H'⟩:St).put o.dst .junk) (a.put o.dst u) w':=λh=>h.put (Fr.refl _ _) o.dst hd (v:=.junk) (by simp only [V.rep])
 refine Oper.wp_of_runs (K:=λu w'=>R C bs ⟨T,H.set i (.vec el 1 ((sortF (λx y=>(cmp x y).getD 0) l).map enc))⟩ a w') ?_ λu w' h=>hK _ _ (kk.run bs _ _ (hR' h))
 rw [hrun];simp only [zfO];have hshape:∀ (l:List α),∀ d∈l.map enc,d.shape=none:=λl d hd=>by
  obtain ⟨z,_,rfl⟩:=yU.1 hd;exact h1 z
 cases l with
 | nil=>
  have hset:H.set i (.vec el 1 ((sortF (λx y=>(cmp x y).getD 0) ([]:List α)).map enc))=H:=by
   refine ui λj=>?_
   by_cases hij:i=j
   ·subst hij;rw [yt (yb.1 hi).1,hi];rfl
   ·rw [yv hij]
  rw [hset];have hn0:n=0:=by simpa using hn
  subst hn0;have hxv:∃ p cap,a.eval x = .slice p 0 cap:=by
   rcases hown.2 with ⟨h,_⟩ | ⟨g',cap,cur,h,_⟩
   ·exact ⟨_,_,h⟩
   ·exact ⟨_,_,h⟩
  obtain ⟨p,cap,hxv⟩:=hxv;rw [hxv];refine (AnyF.slices_SortFunc_none { L with } p cap (a.eval y) w).mono ?_;rintro e w' ⟨rfl,rfl⟩;exact ⟨_,rfl,hR⟩
 | cons z zs=>
  obtain ⟨k,hk⟩:∃ k,k=zs.length:=⟨_,rfl⟩
  have hnk:n=k+1:=by rw [hn,hk];rfl
  obtain ⟨gb,cap,cur,hxv,_,hheap,hncap,hcapm,hcurs,htake⟩:=hown.2.resolve_left (λh=>by omega);have hob:bs[i]? = some (some gb):=by rw [hbs,hxv];rfl
  have hcl:cells.length=k+1:=by rw [hown.1,hnk];simp
  obtain ⟨vals,hvals⟩:∃ vals:Fin (k+1)→Value,∀ j:Fin (k+1),cells[j.val]? = some (vals j):=
   ⟨λj=>cells[j.val]'(by have:=j.isLt;omega),λj=>yA _⟩
  have hll:(z::zs).length=k+1:=by rw [hk];rfl
  obtain ⟨el',hel⟩:∃ el':Fin (k+1)→α,∀ j:Fin (k+1),(z::zs)[j.val]? = some (el' j):=
   ⟨λj=>(z::zs)[j.val]'(by have:=j.isLt;omega),λj=>yA _⟩
  have hreps:=(D.flat_one (hshape (z::zs))).1 hflat
  have hval:∀ j,(enc (el' j)).rep (Own C.A0 bs) w (vals j):=by
   intro j;obtain ⟨v,hv,hr⟩:=D.reps_get hreps j.val (enc (el' j)) (by rw [y8,hel j];rfl);rw [hvals j] at hv;cases hv;exact hr
  have hmem:∀ j,el' j∈z::zs:=λj=>yu (hel j)
  have hO:SWO (ltOf λp q:Fin (k+1)=>(cmp (el' p) (el' q)).getD 0):=swo_of hswo el' hmem;have hAlt:∀ b,Own C.A0 bs b→b<w.heap.size:=λb hb=>hb.elim (hR.own.foreign b) (hR.own.lt b)
  have hgb:Own C.A0 bs gb:=.inr (yu hob);have hcmp:CmpLays1 P g #[] vals (λp q:Fin (k+1)=>(cmp (el' p) (el' q)).getD 0) gb 0 (k+1) w:=cmp_of_pure hAlt hR.own.glob hgb hval λp q=>by
   obtain ⟨v,hv⟩:=Option.isSome_iff_exists.1 (hsome _ (hmem p) _ (hmem q));have:=hp _ _ _ hv;rw [hv];exact this
  have hone:OneCell vals:=λj=>D.flat_ones (λd hd=>by obtain ⟨q,_,rfl⟩:=yU.1 hd;exact h2 q) hflat _ (yu (hvals j))
  have eg:∀ args w,(callFunc g args).run P w = .ok (.enter g args) w:=λargs w=>zbt hcg args w
  have hH:Holds vals w gb 0 (Array.ofFn (n:=k+1) id):=by
   intro j hj;have hj':j<k+1:=by simpa using hj
   refine ⟨?_,by simp [World.frozen?,hheap]⟩;rw [getElem!_pos _ j hj,uq,zab hheap];have h2:(cur.toList.take (n*1))[j]? = cells[j]?:=by rw [htake]
   rw [List.getElem?_take_of_lt (by omega)] at h2;rw [← yY,h2];have:=hvals ⟨j,hj'⟩;simpa using this
  have hcon:=Any.slices_SortFunc_eq L vals hone (λp q:Fin (k+1)=>(cmp (el' p) (el' q)).getD 0) hO g #[] gb 0 cap (Array.ofFn (n:=k+1) id) w eg (by simpa using hcmp) hH (ym.1 hheap).1 (by have:=hlen;rw [hll] at this;simpa using this);rw [hxv,hyv];have hsz:(Array.ofFn (n:=k+1) (id:Fin (k+1)→Fin (k+1))).size=k+1:=by simp
  rw [hsz] at hcon;rw [hnk];refine hcon.mono ?_;rintro e w' ⟨rfl,m,os,rfl⟩;refine ⟨_,rfl,?_⟩;change R C bs ⟨T,_⟩ a (sortWorld vals w gb 0 m (zeC k λp q:Fin (k+1)=>(cmp (el' p) (el' q)).getD 0) os);have hsp:=zhF hO;obtain ⟨ix,hix⟩:∃ ix,ix=zeC k λp q:Fin (k+1)=>(cmp (el' p) (el' q)).getD 0:=⟨_,rfl⟩
  rw [← hix] at hsp ⊢;have hres:sortF (λx y=>(cmp x y).getD 0) (z::zs)=ix.toList.map el':=by
   have hel':∀ (j:Fin (zs.length+1)),el' (j.cast (by rw [hk]))=(z::zs)[j.val]'(by simp):=λj=>by
    have:=hel (j.cast (by rw [hk]));rw [yA (by simp)] at this;simpa using this.symm
   subst hk;have hel2:el'=λj=>(z::zs)[j.val]'(by simp):=funext λj=>hel' j
   rw [hix,hel2];rfl
  rw [hres];have hnew:(putCells vals 0 ix cur).toList.take ((k+1)*1)=ix.toList.map vals:=by
   apply ui;intro j;have hcs:k+1≤cur.size:=by rw [hcurs];omega
   by_cases hj:j<k+1
   ·rw [List.getElem?_take_of_lt (by omega),yY];have hj2:j<ix.size:=by rw [hsp.1];exact hj
    simp [putCells,hj2,show j<cur.size by omega,getElem!_pos ix j hj2]
   ·rw [List.getElem?_take_eq_none (by omega),List.getElem?_eq_none (by simp [hsp.1];omega)]
  have hw1:sortWorld vals w gb 0 m ix os=grow (Sort.ahead (w.setRow gb (putCells vals 0 ix cur)) m) os:=by
   unfold sortWorld;rw [putRow_ahead];unfold putRow;rw [mapBlock_setRow hheap]
  rw [hw1];have hR1:R C bs ⟨T,H.set i (.vec el 1 ((ix.toList.map el').map enc))⟩ a (w.setRow gb (putCells vals 0 ix cur)):=by
   refine R.vecTurn (cur:=cur) hR hi hob hheap (by simp [putCells]) (by simp [hsp.1,hk]) ?_ (by simp);have e1:((z::zs).map enc).length*1=(k+1)*1:=by simp [hk]
   rw [e1,hnew];refine (D.flat_one (hshape _)).2 (D.reps_of_get (by simp) λj d v hd hv=>?_);simp only [y8,Option.map_eq_some_iff] at hd hv;obtain ⟨q,⟨p,hp1,rfl⟩,rfl⟩:=hd;obtain ⟨p',hp2,rfl⟩:=hv;rw [hp1] at hp2;cases hp2;exact hval p
  have hfr:Fr zd (w.setRow gb (putCells vals 0 ix cur)) (grow (Sort.ahead (w.setRow gb (putCells vals 0 ix cur)) m) os):=
   ⟨rfl,rfl,rfl,by simp [Sort.ahead],λb hb _=>by rw [heap_grow_old _ _ (by simpa [Sort.ahead] using hb)];rfl,λ_=>Nat.le_add_right _ _⟩
  exact hR1.put hfr none rfl (v:=.junk) (u:=Go.undef) (by simp only [V.rep])
end
def zgG (c:UInt8):List UInt8→List (List UInt8)
 | []=>[[]]
 | x::l=>if x=c then []::zgG c l else match zgG c l with
  | []=>[[x]]
  | y::r=>(x::y)::r
theorem splitC_miss {c:UInt8}:∀ {l:List UInt8},c∉l→zgG c l=[l]
 | [],_=>rfl
 | x::l,h=>by
  rw [zgG,if_neg (by intro e;exact h (by simp [e])),splitC_miss (by intro e;exact h (by simp [e]))]
theorem splitC_app {c:UInt8}:∀ {a:List UInt8} (l:List UInt8),c∉a→zgG c (a++c::l)=a::zgG c l
 | [],l,_=>by simp [zgG]
 | x::a,l,h=>by
  rw [y7,zgG,if_neg (by intro e;exact h (by simp [e])),splitC_app (a:=a) l (by intro e;exact h (by simp [e]))]
theorem index_one (c:UInt8):∀ s:List UInt8,(Lib.index s [c] = -1∧c∉s)∨∃ i:Nat,Lib.index s [c]=i∧c∉s.take i∧∃ r,s=s.take i++c::r∧s.drop (i+1)=r
 | []=>Or.inl ⟨rfl,by simp⟩
 | x::l=>by
  by_cases h:c=x
  ·subst h
   refine Or.inr ⟨0,?_,by simp,l,by simp,by simp⟩
   simp [Lib.index,List.isPrefixOf]
  ·have h0:([c]:List UInt8).isPrefixOf (x::l)=false:=by simp [List.isPrefixOf,h]
   rcases index_one c l with ⟨h1,h2⟩ | ⟨i,h1,h2,r,h3,h4⟩
   ·refine Or.inl ⟨?_,by simp [h,h2]⟩
    unfold Lib.index
    rw [h0,h1]
    rfl
   ·refine Or.inr ⟨i+1,?_,by simp [h,h2],r,by simpa using h3,by simpa using h4⟩
    unfold Lib.index
    rw [h0,h1,if_neg (by simp),if_neg (by simp)]
    push_cast;rfl
theorem split_one (c:UInt8):∀ (n:Nat) (s:List UInt8),s.length≤n→Lib.split s [c]=zgG c s:=by
 intro n
 induction n with
 | zero=>
  intro s hs
  have:s=[]:=by cases s with | nil=>rfl | cons x l=>simp at hs
  subst this
  unfold Lib.split
  rw [Lib.count_one]
  rfl
 | succ n ih=>
  intro s hs
  unfold Lib.split
  rw [Lib.count_one]
  rcases index_one c s with ⟨h1,h2⟩ | ⟨i,h1,h2,r,h3,h4⟩
  ·rw [splitC_miss h2,List.count_eq_zero.2 h2];rfl
  ·have hr:r.length≤n:=by
    have:=congrArg List.length h3
    simp at this
    omega
   have h5:=ih r hr
   unfold Lib.split at h5
   rw [Lib.count_one] at h5
   have h6:s.count c=r.count c+1:=by
    rw [h3,List.count_append,List.count_eq_zero.2 h2,List.count_cons]
    simp
   rw [h6,Lib.splitK,h1,if_neg (by simp)]
   have h7:(((i:Int)).toNat+([c]:List UInt8).length)=i+1:=by simp
   rw [h7,h4,h5]
   have h8:=splitC_app (c:=c) r h2
   rw [← h3] at h8
   rw [h8]
   simp
def digF:Nat→Nat→List UInt8
 | 0,_=>[]
 | k+1,u=>if u<10 then [UInt8.ofNat (48+u)] else digF k (u / 10)++[UInt8.ofNat (48+u % 10)]
theorem digF_eq:∀ (k u:Nat),1≤k→u<10 ^ k→digF k u=Lib.decDigits u
 | 0,u,h,_=>by omega
 | 1,u,_,h=>by
  rw [Lib.decDigits]
  have h:u<10:=by simpa using h
  unfold digF
  rw [if_pos h,dif_pos h]
 | k+2,u,_,h=>by
  rw [Lib.decDigits]
  unfold digF
  split
  ·rfl
  ·rw [digF_eq (k+1) (u / 10) (by omega) (by rw [uG] at h;omega)]
def itoaL (n:Int):List UInt8:=if n<0 then 45::digF 20 n.natAbs else digF 20 n.toNat
theorem itoaL_eq {n:Int} (h0 : -9223372036854775808≤n) (h1:n≤9223372036854775807):itoaL n=Lib.itoa n:=by
 unfold itoaL Lib.itoa
 split
 ·rw [digF_eq 20 _ (by decide) (by omega)]
 ·rw [digF_eq 20 _ (by decide) (by omega)]
noncomputable section
def zhS (n:Nat):Option Model:=
 some (⟨[],[(⟨[99],1,[],(⟨0,3⟩:Range),0⟩:Table)],[[99]],[(⟨0,0,(⟨[(⟨0,(-1)⟩:Term)],0⟩:Row),0,0⟩:Constraint),(⟨0,0,(⟨[(⟨0,1⟩:Term)],3⟩:Row),0,0⟩:Constraint)],[(⟨[116,119,111],false,[]⟩:Operation)],[(⟨0,[],(⟨[(⟨0,2⟩:Change)],[],[]⟩:Effect)⟩:Action)],[]⟩:Model)
def zP.l1 (n:Nat) (t0:List Int) (t1:Int→Option Bool) (b:Int→Option Int) (a:Int):Option Int:=
 if (decide (a<(t0.length:Int))) then
 (idx t0 a).bind λc=>
 (t1 c).bind λd=>
 if d then
 some a
 else
 b (add64 a 1)
 else
 some (-1)
def zP (n:Nat) (t0:List Int) (t1:Int→Option Bool):Option Int:=
 loopF (zP.l1 n t0 t1) n 0
def zh (n:Nat) (t0:List Int) (t1:Int→Option Bool):Option Bool:=
 (zP n t0 t1).bind λa=>
 some (decide (0≤a))
def zdQ (n:Nat) (t0:Int) (t1:Int) (t2:Int):Option Bool:=
 some ((decide (t1≤t0))&&(decide (t0≤t2)))
def zfv (n:Nat) (t0:Int):Option Bool:=
 (zdQ n t0 1 6).bind λa=>
 some (!a)
def zfu (n:Nat) (t0:List Int):Option Bool:=
 (zh n t0 (λq0=>zfv n q0)).bind λa=>
 some (!a)
def zV.l1 (n:Nat) (t0:List Bool) (t1:Bool) (b:Int→Option Int) (a:Int):Option Int:=
 if (decide (a<(t0.length:Int))) then
 (idx t0 a).bind λc=>
 if (t1==c) then
 some a
 else
 b (add64 a 1)
 else
 some (-1)
def zV (n:Nat) (t0:List Bool) (t1:Bool):Option Int:=
 loopF (zV.l1 n t0 t1) n 0
def zbG (n:Nat) (t0:List Bool) (t1:Bool):Option Bool:=
 (zV n t0 t1).bind λa=>
 some (decide (0≤a))
def zf8 (n:Nat) (t0:List Bool):Option Bool:=
 (zbG n t0 false).bind λa=>
 some (!a)
def zeV (n:Nat) (t0:List UInt8) (t1:Int→Option Bool):Option (List (List UInt8)):=
 none
def zgK (n:Nat) (t0:Int):Option Bool:=
 if (decide (wk .u32 t0≤255)) then
 jn (λ(b:Bool)=>
 if b then
 some true
 else
 some false) λa=>
 if (t0==9) then
 a (t0==9)
 else
 if (t0==10) then
 a (t0==10)
 else
 if (t0==11) then
 a (t0==11)
 else
 if (t0==12) then
 a (t0==12)
 else
 if (t0==13) then
 a (t0==13)
 else
 if (t0==32) then
 a (t0==32)
 else
 if (t0==133) then
 a (t0==133)
 else
 a (t0==160)
 else
 none
def zaY.l4 (n:Nat) (t0:List UInt8) (e:Int) (c:((List (List UInt8))×Int×Int×Int)→Option (List (List UInt8))) (b:List (List UInt8)) (d:Int→Option (List (List UInt8))) (a:Int):Option (List (List UInt8)):=
 grd (!(decide (a<(t0.length:Int)))||(sidx t0 a).isSome) <|
 grd (!(decide (a<(t0.length:Int)))||(idx tab8 ((sidx t0 a).getD default)).isSome) <|
 if ((decide (a<(t0.length:Int)))&&(((idx tab8 ((sidx t0 a).getD default)).getD default) != 0)) then
 d (add64 a 1)
 else
 c (b,add64 e 1,a,a)
def zaY.l3 (n:Nat) (t0:List UInt8) (e:((List (List UInt8))×Int×Int×Int)→Option (List (List UInt8))) (s:(List (List UInt8))×Int×Int×Int):Option (List (List UInt8)):=
 let a:=s.2.1
 let c:=s.2.2.1
 let b:=s.2.2.2
 if (decide (b<(t0.length:Int))) then
 (sidx t0 b).bind λj=>
 (idx tab8 j).bind λk=>
 if (k==0) then
 e (s.1,a,c,add64 b 1)
 else
 (cut t0 c b).bind λl=>
 (idx s.1 a).bind λo=>
 (sto s.1 a l).bind λh=>
 loopF (zaY.l4 n t0 a e h) n (add64 b 1)
 else
 jn (λ(f:(List (List UInt8)))=>
 some f) λd=>
 if (decide (c<(t0.length:Int))) then
 (cut t0 c (t0.length:Int)).bind λi=>
 (idx s.1 a).bind λm=>
 (sto s.1 a i).bind λg=>
 d g
 else
 d s.1
def zaY.l2 (n:Nat) (t0:List UInt8) (c:List (List UInt8)) (b:Int→Option (List (List UInt8))) (a:Int):Option (List (List UInt8)):=
 grd (!(decide (a<(t0.length:Int)))||(sidx t0 a).isSome) <|
 grd (!(decide (a<(t0.length:Int)))||(idx tab8 ((sidx t0 a).getD default)).isSome) <|
 if ((decide (a<(t0.length:Int)))&&(((idx tab8 ((sidx t0 a).getD default)).getD default) != 0)) then
 b (add64 a 1)
 else
 loopF (zaY.l3 n t0) n (c,0,a,a)
def zaY.l1 (n:Nat) (t0:List UInt8) (d:(Int×Int×Int×Int)→Option (List (List UInt8))) (s:Int×Int×Int×Int):Option (List (List UInt8)):=
 let a:=s.2.2.2
 if (decide (a<(t0.length:Int))) then
 (sidx t0 a).bind λb=>
 (idx tab8 b).bind λc=>
 d (add64 s.1 (band .i64 s.2.1 (bnot .i64 (wk .i64 c))),wk .i64 c,bor .u8 s.2.2.1 b,add64 a 1)
 else
 if (decide (128≤s.2.2.1)) then
 (zeV n t0 (λq0=>zgK n q0)).bind λe=>
 some e
 else
 (mkl 16 s.1 ([]:List UInt8)).bind λf=>
 loopF (zaY.l2 n t0 f) n 0
def zaY (n:Nat) (t0:List UInt8):Option (List (List UInt8)):=
 loopF (zaY.l1 n t0) n (0,1,0,0)
def zbs.l1 (n:Nat) (a:List (List UInt8)) (b:((GMap (List UInt8) Bool)×Int)→Option (GMap (List UInt8) Bool)) (s:(GMap (List UInt8) Bool)×Int):Option (GMap (List UInt8) Bool):=
 if (decide (s.2<(a.length:Int))) then
 (idx a s.2).bind λc=>
 b ((s.1.put c true),add64 s.2 1)
 else
 some s.1
def zbs (n:Nat):Option (GMap (List UInt8) Bool):=
 (zaY n [115,111,114,116,32,114,101,108,97,116,105,111,110,32,99,111,117,110,116,101,114,32,115,101,116,32,114,101,103,105,115,116,101,114,32,105,110,118,97,114,105,97,110,116,32,111,112,101,114,97,116,105,111,110,32,107,101,121,32,114,101,102,101,114,101,110,99,101,32,116,111,32,99,111,117,110,116,32,97,99,121,99,108,105,99,32,97,108,108,32,115,117,109,32,105,110,32,97,100,100,119,105,110,115,32,114,101,109,111,118,101,119,105,110,115,32,108,97,115,116,32,109,117,108,116,105,32,104,105,100,101,32,111,114,100,101,114,101,100,32,114,101,113,117,105,114,101,32,104,111,108,100,32,105,110,115,101,114,116,32,100,101,108,101,116,101,32,97,100,100,32,102,114,111,109,32,112,117,116,32,100,114,111,112,32,97,115,115,105,103,110,32,102,111,114,32,119,104,101,114,101,32,97,110,100,32,111,114,32,110,111,116]).bind λa=>
 loopF (zbs.l1 n a) n ((GMap.empty:GMap (List UInt8) Bool),0)
def zbP (n:Nat) (t0:Int):Option Bool:=
 some ((((t0==32)||(t0==9))||(t0==10))||(t0==13))
def zcq.l1 (n:Nat) (t0:List UInt8) (t1:Int→Option Bool) (b:Int→Option Int) (a:Int):Option Int:=
 grd (!(decide (a<(t0.length:Int)))||(sidx t0 a).isSome) <|
 grd (!(decide (a<(t0.length:Int)))||(t1 ((sidx t0 a).getD default)).isSome) <|
 if ((decide (a<(t0.length:Int)))&&((t1 ((sidx t0 a).getD default)).getD default)) then
 b (add64 a 1)
 else
 some a
def zcq (n:Nat) (t0:List UInt8) (t1:Int→Option Bool):Option Int:=
 loopF (zcq.l1 n t0 t1) n 0
def zgh (n:Nat) (t0:Int):Option Bool:=
 some (t0 != 10)
def zcE.l1 (n:Nat) (t0:List UInt8) (b:Int→Option Int) (a:Int):Option Int:=
 if (decide (a<(t0.length:Int))) then
 (sidx t0 a).bind λc=>
 (zbP n c).bind λd=>
 if d then
 b (add64 a 1)
 else
 (sidx t0 a).bind λe=>
 if (e==35) then
 (cut t0 a (t0.length:Int)).bind λf=>
 (zcq n f (λq0=>zgh n q0)).bind λg=>
 b (add64 a g)
 else
 some a
 else
 some a
def zcE (n:Nat) (t0:List UInt8):Option Int:=
 loopF (zcE.l1 n t0) n 0
def zcp (n:Nat) (t0:Int):Option Bool:=
 some ((decide (97≤t0))&&(decide (t0≤122)))
def zbd (n:Nat) (t0:Int):Option Bool:=
 some ((decide (48≤t0))&&(decide (t0≤57)))
def ziG (n:Nat) (t0:Int):Option Bool:=
 (zcp n t0).bind λa=>
 grd (a||(zbd n t0).isSome) <|
 some ((a||((zbd n t0).getD default))||(t0==95))
def zbh (n:Nat) (t0:List UInt8) (t1:List UInt8):Option Bool:=
 grd (!(decide ((t1.length:Int)≤(t0.length:Int)))||(cut t0 0 (t1.length:Int)).isSome) <|
 some ((decide ((t1.length:Int)≤(t0.length:Int)))&&(decide (((cut t0 0 (t1.length:Int)).getD default)=t1)))
def zcI (n:Nat) (t0:List UInt8) (t1:List UInt8):Option Bool:=
 (zbh n t0 t1).bind λa=>
 some a
def zbi (n:Nat) (t0:List UInt8) (t1:Int):Option Int:=
 some (Lib.indexByte t0 t1.toNat.toUInt8)
def zb2 (n:Nat) (t0:List UInt8) (t1:Int):Option Int:=
 (zbi n t0 t1).bind λa=>
 some a
def za6.l1 (n:Nat) (t0:List UInt8) (b:Int→Option Int) (a:Int):Option Int:=
 if (decide (a<([[61,61],[33,61],[60,61],[62,61],[46,46]].length:Int))) then
 (idx [[61,61],[33,61],[60,61],[62,61],[46,46]] a).bind λd=>
 (zcI n t0 d).bind λc=>
 if c then
 some 2
 else
 b (add64 a 1)
 else
 grd (!(!decide (t0=[]))||(sidx t0 0).isSome) <|
 grd (!(!decide (t0=[]))||(zb2 n [60,62,61,43,45,42,40,41,123,125,44,58,59] ((sidx t0 0).getD default)).isSome) <|
 if ((!decide (t0=[]))&&(decide (0≤((zb2 n [60,62,61,43,45,42,40,41,123,125,44,58,59] ((sidx t0 0).getD default)).getD default)))) then
 some 1
 else
 some 0
def za6 (n:Nat) (t0:List UInt8):Option Int:=
 loopF (za6.l1 n t0) n 0
def zcZ (n:Nat) (t0:List UInt8):Option Bool:=
 (sidx t0 0).bind λb=>
 (zcp n b).bind λa=>
 grd (a||(sidx t0 0).isSome) <|
 grd (a||(zbd n ((sidx t0 0).getD default)).isSome) <|
 grd ((a||((zbd n ((sidx t0 0).getD default)).getD default))||(za6 n t0).isSome) <|
 some ((a||((zbd n ((sidx t0 0).getD default)).getD default))||(decide (0<((za6 n t0).getD default))))
def zas.l2 (n:Nat) (a:List UInt8) (c:(Int×Int)→Option Token) (d:Int→Option Token) (b:Int):Option Token:=
 grd (!(decide (b<(a.length:Int)))||(sidx a b).isSome) <|
 grd (!(decide (b<(a.length:Int)))||(zbP n ((sidx a b).getD default)).isSome) <|
 grd (!((decide (b<(a.length:Int)))&&(!((zbP n ((sidx a b).getD default)).getD default)))||(sidx a b).isSome) <|
 grd (!(((decide (b<(a.length:Int)))&&(!((zbP n ((sidx a b).getD default)).getD default)))&&(((sidx a b).getD default) != 35))||(cut a b (a.length:Int)).isSome) <|
 grd (!(((decide (b<(a.length:Int)))&&(!((zbP n ((sidx a b).getD default)).getD default)))&&(((sidx a b).getD default) != 35))||(zcZ n ((cut a b (a.length:Int)).getD default)).isSome) <|
 if ((((decide (b<(a.length:Int)))&&(!((zbP n ((sidx a b).getD default)).getD default)))&&(((sidx a b).getD default) != 35))&&(!((zcZ n ((cut a b (a.length:Int)).getD default)).getD default))) then
 d (add64 b 1)
 else
 c (5,b)
def zas.l1 (n:Nat) (t1:List UInt8) (t2:GMap (List UInt8) Bool) (p:Unit→Option Token) (s:Unit):Option Token:=
 (cut t1 0 (t1.length:Int)).bind λf=>
 (zcE n f).bind λc=>
 (cut t1 (add64 0 c) (t1.length:Int)).bind λa=>
 jn (λ(e:Int×Int)=>
 some (⟨e.1,0,add64 0 c,add64 (add64 0 c) e.2⟩:Token)) λb=>
 if (decide (a=[])) then
 b (0,0)
 else
 (sidx a 0).bind λg=>
 (zcp n g).bind λh=>
 if h then
 (zcq n a (λq0=>ziG n q0)).bind λd=>
 (cut a 0 d).bind λi=>
 if ((t2.get? i).getD false) then
 b (2,d)
 else
 b (1,d)
 else
 (sidx a 0).bind λj=>
 (zbd n j).bind λk=>
 if k then
 (zcq n a (λq0=>zbd n q0)).bind λl=>
 b (3,l)
 else
 (za6 n a).bind λm=>
 if (decide (0<m)) then
 (za6 n a).bind λo=>
 b (4,o)
 else
 loopF (zas.l2 n a b) n 1
def zas (n:Nat) (t1:List UInt8) (t2:GMap (List UInt8) Bool):Option Token:=
 loopF (zas.l1 n t1 t2) n ()
def zeb (n:Nat) (t0:List UInt8):Option Int:=
 if ((decide (t0=[]))||(decide (4096<(t0.length:Int))))=true then some 0
 else
 (zbs n).bind λkw=>
 (zas n t0 kw).bind λtok=>
 if (tok.at_ != 0||tok.end_ != (t0.length:Int))=true then some 0 else some tok.kind
def zfa (n:Nat) (t0:List UInt8):Option Bool:=
 grd (!(decide ((t0.length:Int)≤16))||(zeb n t0).isSome) <|
 some ((decide ((t0.length:Int)≤16))&&(((zeb n t0).getD default)==1))
def zcg (n:Nat) (t0:Int) (t1:List Int):Option Bool:=
 some ((decide (t0<0))||(decide ((t1.length:Int)≤t0)))
def zdF (n:Nat) (t0:List Int) (t1:List Int):Option Bool:=
 grd (!(decide ((t1.length:Int)≤3))||(zh n t1 (λq0=>zcg n q0 t0)).isSome) <|
 some ((decide ((t1.length:Int)≤3))&&(!((zh n t1 (λq0=>zcg n q0 t0)).getD default)))
def zeH (n:Nat) (t0:Table):Option Bool:=
 jn (λ(b:Bool)=>
 if b then
 some (((decide (t0.range.lo≤t0.range.hi))&&(decide ((-9999)≤t0.range.lo)))&&(decide (t0.range.hi≤9999)))
 else
 some (decide ((t0.range:Range)=(⟨0,1⟩:Range)))) λa=>
 if (t0.kind==1) then
 a (t0.kind==1)
 else
 if (t0.kind==4) then
 a (t0.kind==4)
 else
 a (t0.kind==5)
def zbO (n:Nat) (t0:Table):Option Bool:=
 some ((t0.kind==0)||(t0.kind==1))
def za0.l1 (n:Nat) (t0:List Int) (t1:List Int) (a:(Int×Int)→Option Int) (s:Int×Int):Option Int:=
 if (decide (s.2<(t1.length:Int))) then
 (idx t1 s.2).bind λb=>
 (idx t0 b).bind λc=>
 a (mul64 s.1 c,add64 s.2 1)
 else
 some s.1
def za0 (n:Nat) (t0:List Int) (t1:List Int):Option Int:=
 loopF (za0.l1 n t0 t1) n (1,0)
def zbx.l1 (n:Nat) (t0:List Int) (t1:List Table) (f:((GMap (List UInt8) Bool)×Int×Int×Int)→Option Bool) (s:(GMap (List UInt8) Bool)×Int×Int×Int):Option Bool:=
 let b:=s.2.2.1
 let d:=s.2.2.2
 if (decide (d<(t1.length:Int))) then
 jn (λ(c:(GMap (List UInt8) Bool)×Int×Int)=>
 f (c.1,c.2.1,c.2.2,add64 d 1)) λe=>
 (idx t1 d).bind λa=>
 (zfa n a.name).bind λg=>
 (zdQ n a.kind 0 5).bind λh=>
 (zdF n t0 a.columns).bind λi=>
 (zeH n a).bind λj=>
 (zf8 n [g,!((s.1.get? a.name).getD false),h,i,j]).bind λk=>
 if (!k) then
 some false
 else
 (zbO n a).bind λl=>
 if l then
 if (a.first != s.2.1) then
 some false
 else
 (za0 n t0 a.columns).bind λm=>
 e ((s.1.put a.name true),add64 s.2.1 m,b)
 else
 if (a.first != b) then
 some false
 else
 (za0 n t0 a.columns).bind λo=>
 e ((s.1.put a.name true),s.2.1,add64 b o)
 else
 some ((decide (s.2.1≤128))&&(decide (b≤64)))
def zbx (n:Nat) (t0:List Int) (t1:List Table):Option Bool:=
 (zfu n t0).bind λa=>
 (zf8 n [decide ((t0.length:Int)≤4),decide ((t1.length:Int)≤12),a]).bind λb=>
 if (!b) then
 some false
 else
 loopF (zbx.l1 n t0 t1) n ((GMap.empty:GMap (List UInt8) Bool),0,0,0)
def zak.l1 (n:Nat) (t0:List (List UInt8)) (b:((GMap (List UInt8) Bool)×Int)→Option Bool) (s:(GMap (List UInt8) Bool)×Int):Option Bool:=
 if (decide (s.2<(t0.length:Int))) then
 (idx t0 s.2).bind λa=>
 (zfa n a).bind λc=>
 if ((!c)||((s.1.get? a).getD false)) then
 some false
 else
 b ((s.1.put a true),add64 s.2 1)
 else
 some true
def zak (n:Nat) (t0:List (List UInt8)):Option Bool:=
 loopF (zak.l1 n t0) n ((GMap.empty:GMap (List UInt8) Bool),0)
def zen (n:Nat) (t0:Int) (t1:Int):Option (Int×Int):=
 (shrO .u64 t0 32).bind λa=>
 (shrO .u64 t1 32).bind λb=>
 (shrO .u64 (wk .u64 ((band .u64 t0 4294967295)*(band .u64 t1 4294967295))) 32).bind λc=>
 (shrO .u64 (wk .u64 ((wk .u64 (a*(band .u64 t1 4294967295)))+c)) 32).bind λd=>
 (shrO .u64 (wk .u64 ((band .u64 (wk .u64 ((wk .u64 (a*(band .u64 t1 4294967295)))+c)) 4294967295)+(wk .u64 ((band .u64 t0 4294967295)*b)))) 32).bind λe=>
 some (wk .u64 ((wk .u64 ((wk .u64 (a*b))+d))+e),wk .u64 (t0*t1))
def zd8 (n:Nat) (t0:Int) (t1:Int):Option (Int×Int):=
 (zen n t0 t1).bind λa=>
 some (a.1,a.2)
def zF.l1 (n:Nat) (b:((List Range)×Int)→Option (List Range)) (s:(List Range)×Int):Option (List Range):=
 let a:=s.1
 if (decide (s.2<(a.length:Int))) then
 (cut a s.2 (a.length:Int)).bind λc=>
 (cut a 0 s.2).bind λd=>
 b ((zeJ a s.2.toNat a.length ((a.drop 0).take (s.2.toNat - 0))),add64 s.2 (min (a.length - s.2.toNat) ((a.drop 0).take (s.2.toNat - 0)).length:Nat))
 else
 some a
def zF (n:Nat) (t0:List Range) (t1:Int):Option (List Range):=
 if (decide (t1<0)) then
 none
 else
 (zd8 n (wk .u64 (t0.length:Int)) (wk .u64 t1)).bind λa=>
 if ((decide (0<a.1))||(decide (9223372036854775807<a.2))) then
 none
 else
 (mkl 16 (wk .i64 a.2) (⟨0,0⟩:Range)).bind λb=>
 loopF (zF.l1 n) n ((zeJ b 0 b.length t0),(min (b.length - 0) t0.length:Nat))
def zbr.l1 (n:Nat) (t0:List Int) (t1:List Table) (t2:Bool) (d:((List Range)×Int)→Option (List Range)) (s:(List Range)×Int):Option (List Range):=
 if (decide (s.2<(t1.length:Int))) then
 jn (λ(c:(List Range))=>
 d (c,add64 s.2 1)) λb=>
 (idx t1 s.2).bind λa=>
 (zbO n a).bind λe=>
 if (e==t2) then
 (za0 n t0 a.columns).bind λf=>
 (zF n [a.range] f).bind λg=>
 (app 16 s.1 g).bind λh=>
 b h
 else
 b s.1
 else
 some s.1
def zbr (n:Nat) (t0:List Int) (t1:List Table) (t2:Bool):Option (List Range):=
 (zbx n t0 t1).bind λa=>
 if (!a) then
 some ([]:List Range)
 else
 loopF (zbr.l1 n t0 t1 t2) n (([]:List Range),0)
def zah (n:Nat) (t0:Int) (t1:Int):Option Bool:=
 some ((decide (0≤t0))&&(decide (t0<t1)))
def zat (n:Nat) (t0:Int) (t1:Int):Option Bool:=
 some ((decide (neg64 t1≤t0))&&(decide (t0≤t1)))
def zaq.l1 (n:Nat) (t0:Judge) (t1:Row) (b:(Int×Int)→Option Bool) (s:Int×Int):Option Bool:=
 if (decide (s.2<(t1.terms.length:Int))) then
 (idx t1.terms s.2).bind λa=>
 grd ((((decide (a.cell≤s.1))||(decide ((t0.strict.length:Int)≤a.cell)))||(a.factor==0))||(zat n a.factor 1000).isSome) <|
 if ((((decide (a.cell≤s.1))||(decide ((t0.strict.length:Int)≤a.cell)))||(a.factor==0))||(!((zat n a.factor 1000).getD default))) then
 some false
 else
 b (a.cell,add64 s.2 1)
 else
 (zat n t1.bound 1000000000).bind λc=>
 some c
def zaq (n:Nat) (t0:Judge) (t1:Row):Option Bool:=
 loopF (zaq.l1 n t0 t1) n ((-1),0)
def zbe (n:Nat) (t0:Table) (t1:Constraint) (t2:Judge):Option Bool:=
 grd (!((t0.kind==0)&&((t0.columns.length:Int)==2))||(idx t0.columns 0).isSome) <|
 grd (!((t0.kind==0)&&((t0.columns.length:Int)==2))||(idx t0.columns 1).isSome) <|
 grd (!((((t0.kind==0)&&((t0.columns.length:Int)==2))&&(((idx t0.columns 0).getD default)==((idx t0.columns 1).getD default)))&&(t0.first==t1.first))||(idx t0.columns 0).isSome) <|
 grd (!((((t0.kind==0)&&((t0.columns.length:Int)==2))&&(((idx t0.columns 0).getD default)==((idx t0.columns 1).getD default)))&&(t0.first==t1.first))||(idx t2.model.sorts ((idx t0.columns 0).getD default)).isSome) <|
 some (((((t0.kind==0)&&((t0.columns.length:Int)==2))&&(((idx t0.columns 0).getD default)==((idx t0.columns 1).getD default)))&&(t0.first==t1.first))&&(((idx t2.model.sorts ((idx t0.columns 0).getD default)).getD default)==t1.size))
def zw.l1 (n:Nat) (t0:List Table) (t1:Table→Option Bool) (b:Int→Option Int) (a:Int):Option Int:=
 if (decide (a<(t0.length:Int))) then
 (idx t0 a).bind λc=>
 (t1 c).bind λd=>
 if d then
 some a
 else
 b (add64 a 1)
 else
 some (-1)
def zw (n:Nat) (t0:List Table) (t1:Table→Option Bool):Option Int:=
 loopF (zw.l1 n t0 t1) n 0
def zJ (n:Nat) (t0:List Table) (t1:Table→Option Bool):Option Bool:=
 (zw n t0 t1).bind λa=>
 some (decide (0≤a))
def zbw (n:Nat) (t0:Judge) (t1:Constraint):Option Bool:=
 grd (!(((t1.row.terms.length:Int)==0)&&(t1.row.bound==0))||(zJ n t0.model.tables (λq0=>zbe n q0 t1 t0)).isSome) <|
 some ((((t1.row.terms.length:Int)==0)&&(t1.row.bound==0))&&((zJ n t0.model.tables (λq0=>zbe n q0 t1 t0)).getD default))
def zH.l1 (n:Nat) (t0:List Term) (t1:List Term) (b:Int→Option Bool) (a:Int):Option Bool:=
 if (decide (a<(t0.length:Int))) then
 (idx t0 a).bind λc=>
 (idx t1 a).bind λd=>
 if (!decide ((c:Term)=d)) then
 some false
 else
 b (add64 a 1)
 else
 some true
def zH (n:Nat) (t0:List Term) (t1:List Term):Option Bool:=
 if ((t0.length:Int) != (t1.length:Int)) then
 some false
 else
 loopF (zH.l1 n t0 t1) n 0
def zc1 (n:Nat) (t0:Row) (t1:Int) (t2:Int) (t3:Int):Option Bool:=
 (zH n t0.terms [(⟨t1,t2⟩:Term)]).bind λa=>
 some (a&&(t0.bound==t3))
def zU.l1 (n:Nat) (t0:Judge) (h:Int→Option Bool) (b:Int):Option Bool:=
 if (decide (b<(t0.model.constraints.length:Int))) then
 jn (λ(m:Unit)=>
 h (add64 b 1)) λd=>
 (idx t0.model.constraints b).bind λa=>
 jn (λ(o:Unit)=>
 (quo64 b 2).bind λj=>
 if (decide (j<(t0.strict.length:Int))) then
 (quo64 b 2).bind λk=>
 (idx t0.strict k).bind λg=>
 jn (λ(c:Int×Int)=>
 grd ((a.kind != 0)||(quo64 b 2).isSome) <|
 grd ((a.kind != 0)||(zc1 n a.row ((quo64 b 2).getD default) c.1 c.2).isSome) <|
 if ((a.kind != 0)||(!((zc1 n a.row ((quo64 b 2).getD default) c.1 c.2).getD default))) then
 some false
 else
 d ()) λf=>
 (rem64 b 2).bind λl=>
 if (l==0) then
 f ((-1),neg64 g.lo)
 else
 f (1,g.hi)
 else
 d ()) λe=>
 (zah n a.family (t0.model.families.length:Int)).bind λi=>
 if (!i) then
 some false
 else
 if (a.kind==0) then
 grd (((a.first != 0)||(a.size != 0))||(zaq n t0 a.row).isSome) <|
 if (((a.first != 0)||(a.size != 0))||(!((zaq n t0 a.row).getD default))) then
 some false
 else
 e ()
 else
 grd ((a.kind != 1)||(zbw n t0 a).isSome) <|
 if ((a.kind != 1)||(!((zbw n t0 a).getD default))) then
 some false
 else
 e ()
 else
 some true
def zU (n:Nat) (t0:Judge):Option Bool:=
 if ((decide (512<(t0.model.constraints.length:Int)))||(decide ((t0.model.constraints.length:Int)<mul64 2 (t0.strict.length:Int)))) then
 some false
 else
 loopF (zU.l1 n t0) n 0
def zaT (n:Nat) (t0:Int) (t1:Judge):Option Bool:=
 some ((decide (t0<(-1)))||(decide ((t1.model.sorts.length:Int)≤t0)))
def zA.l1 (n:Nat) (t0:Judge) (b:((List (List UInt8))×Int)→Option Bool) (s:(List (List UInt8))×Int):Option Bool:=
 if (decide (s.2<(t0.model.operations.length:Int))) then
 (idx t0.model.operations s.2).bind λa=>
 (app 16 s.1 [a.name]).bind λc=>
 grd ((decide (3<(a.sorts.length:Int)))||(zh n a.sorts (λq0=>zaT n q0 t0)).isSome) <|
 if ((decide (3<(a.sorts.length:Int)))||((zh n a.sorts (λq0=>zaT n q0 t0)).getD default)) then
 some false
 else
 b (c,add64 s.2 1)
 else
 grd (!(decide ((s.1.length:Int)≤8))||(zak n s.1).isSome) <|
 some ((decide ((s.1.length:Int)≤8))&&((zak n s.1).getD default))
def zA (n:Nat) (t0:Judge):Option Bool:=
 loopF (zA.l1 n t0) n (([]:List (List UInt8)),0)
def zc6 (n:Nat) (t0:Int):Option Bool:=
 some (t0 != t0)
def zbV (n:Nat) (t0:Int) (t1:Int):Option Int:=
 (zc6 n t0).bind λb=>
 (zc6 n t1).bind λa=>
 if b then
 if a then
 some 0
 else
 some (-1)
 else
 if a then
 some 1
 else
 if (decide (t0<t1)) then
 some (-1)
 else
 if (decide (t1<t0)) then
 some 1
 else
 some 0
def zg.l1 (n:Nat) (t0:List Int) (t1:List Int) (c:Int→Option Int) (a:Int):Option Int:=
 if (decide (a<(t0.length:Int))) then
 (idx t0 a).bind λd=>
 if (decide ((t1.length:Int)≤a)) then
 some 1
 else
 (idx t1 a).bind λe=>
 (zbV n d e).bind λb=>
 if (b != 0) then
 some b
 else
 c (add64 a 1)
 else
 if (decide ((t0.length:Int)<(t1.length:Int))) then
 some (-1)
 else
 some 0
def zg (n:Nat) (t0:List Int) (t1:List Int):Option Int:=
 loopF (zg.l1 n t0 t1) n 0
def zaZ.l2 (n:Nat) (t0:List Int) (e:Int) (f:Table) (d:((List Int)×Int×Int)→Option (Int×(List Int)×Bool)) (s:(List Int)×Int×Int):Option (Int×(List Int)×Bool):=
 let a:=s.2.2
 if (decide (0≤a)) then
 (idx f.columns a).bind λg=>
 (idx t0 g).bind λb=>
 (rem64 s.2.1 b).bind λh=>
 (quo64 s.2.1 b).bind λi=>
 (idx s.1 a).bind λj=>
 (sto s.1 a h).bind λc=>
 d (c,i,sub64 a 1)
 else
 some (e,s.1,true)
def zaZ.l1 (n:Nat) (t0:List Int) (t1:List Table) (t2:Bool) (t3:Int) (e:Int→Option (Int×(List Int)×Bool)) (b:Int):Option (Int×(List Int)×Bool):=
 if (decide (b<(t1.length:Int))) then
 (idx t1 b).bind λa=>
 (zbO n a).bind λc=>
 grd (((c != t2)||(decide (sub64 t3 a.first<0)))||(za0 n t0 a.columns).isSome) <|
 if (((c != t2)||(decide (sub64 t3 a.first<0)))||(decide (((za0 n t0 a.columns).getD default)≤sub64 t3 a.first))) then
 e (add64 b 1)
 else
 (mkl 8 (a.columns.length:Int) (0:Int)).bind λd=>
 loopF (zaZ.l2 n t0 b a) n (d,sub64 t3 a.first,sub64 (d.length:Int) 1)
 else
 some (0,([]:List Int),false)
def zaZ (n:Nat) (t0:List Int) (t1:List Table) (t2:Bool) (t3:Int):Option (Int×(List Int)×Bool):=
 (zbx n t0 t1).bind λa=>
 if ((!a)||(decide (t3<0))) then
 some (0,([]:List Int),false)
 else
 loopF (zaZ.l1 n t0 t1 t2 t3) n 0
def zbm (n:Nat) (t0:Judge) (t1:Update):Option Bool:=
 (zaZ n t0.model.sorts t0.model.tables false t1.cell).bind λc=>
 if (!c.2.2) then
 some false
 else
 (idx t0.model.tables c.1).bind λa=>
 jn (λ(d:Bool)=>
 if d then
 some (((t1.kind==0)||(t1.kind==1))&&(t1.value==0))
 else
 some (((t1.kind==2)&&(decide (a.range.lo≤t1.value)))&&(decide (t1.value≤a.range.hi)))) λb=>
 if (a.kind==2) then
 b (a.kind==2)
 else
 b (a.kind==3)
def za4 (n:Nat) (t0:Row) (t1:Judge):Option Bool:=
 (zaq n t1 t0).bind λa=>
 some (!a)
def zC.l1 (n:Nat) (t0:List Row) (t1:Row→Option Bool) (b:Int→Option Int) (a:Int):Option Int:=
 if (decide (a<(t0.length:Int))) then
 (idx t0 a).bind λc=>
 (t1 c).bind λd=>
 if d then
 some a
 else
 b (add64 a 1)
 else
 some (-1)
def zC (n:Nat) (t0:List Row) (t1:Row→Option Bool):Option Int:=
 loopF (zC.l1 n t0 t1) n 0
def zI (n:Nat) (t0:List Row) (t1:Row→Option Bool):Option Bool:=
 (zC n t0 t1).bind λa=>
 some (decide (0≤a))
def zG.l2 (n:Nat) (t0:Judge) (t1:Effect) (b:(Int×Int)→Option Bool) (s:Int×Int):Option Bool:=
 if (decide (s.2<(t1.updates.length:Int))) then
 (idx t1.updates s.2).bind λa=>
 grd ((decide (a.cell≤s.1))||(zbm n t0 a).isSome) <|
 if ((decide (a.cell≤s.1))||(!((zbm n t0 a).getD default))) then
 some false
 else
 b (a.cell,add64 s.2 1)
 else
 grd (!((decide ((t1.hold.length:Int)≤8))&&(decide ((t1.updates.length:Int)≤32)))||(zI n t1.hold (λq0=>za4 n q0 t0)).isSome) <|
 some (((decide ((t1.hold.length:Int)≤8))&&(decide ((t1.updates.length:Int)≤32)))&&(!((zI n t1.hold (λq0=>za4 n q0 t0)).getD default)))
def zG.l1 (n:Nat) (t0:Judge) (t1:Effect) (b:(Int×Int)→Option Bool) (s:Int×Int):Option Bool:=
 if (decide (s.2<(t1.delta.length:Int))) then
 (idx t1.delta s.2).bind λa=>
 grd ((((decide (a.cell≤s.1))||(decide ((t0.strict.length:Int)≤a.cell)))||(a.add==0))||(zat n a.add 1000000000).isSome) <|
 if ((((decide (a.cell≤s.1))||(decide ((t0.strict.length:Int)≤a.cell)))||(a.add==0))||(!((zat n a.add 1000000000).getD default))) then
 some false
 else
 b (a.cell,add64 s.2 1)
 else
 loopF (zG.l2 n t0 t1) n ((-1),0)
def zG (n:Nat) (t0:Judge) (t1:Effect):Option Bool:=
 loopF (zG.l1 n t0 t1) n ((-1),0)
def zx.l2 (n:Nat) (t0:Judge) (f:Int) (j:Int→Option Bool) (b:Action) (h:Operation) (i:Int→Option Bool) (e:Int):Option Bool:=
 if (decide (e<(h.sorts.length:Int))) then
 (idx h.sorts e).bind λa=>
 (idx b.arguments e).bind λc=>
 grd (!(decide (a<0))||(zat n c 9999).isSome) <|
 grd (((decide (a<0))&&(!((zat n c 9999).getD default)))||(!(decide (0≤a))||(idx t0.model.sorts a).isSome)) <|
 grd (((decide (a<0))&&(!((zat n c 9999).getD default)))||(!(decide (0≤a))||(zah n c ((idx t0.model.sorts a).getD default)).isSome)) <|
 if (((decide (a<0))&&(!((zat n c 9999).getD default)))||((decide (0≤a))&&(!((zah n c ((idx t0.model.sorts a).getD default)).getD default)))) then
 some false
 else
 i (add64 e 1)
 else
 jn (λ(l:Unit)=>
 (zG n t0 b.effect).bind λk=>
 if (!k) then
 some false
 else
 j (add64 f 1)) λg=>
 if (decide (0<f)) then
 (idx t0.model.actions (sub64 f 1)).bind λd=>
 grd ((decide (b.operation<d.operation))||(!(d.operation==b.operation)||(zg n d.arguments b.arguments).isSome)) <|
 if ((decide (b.operation<d.operation))||((d.operation==b.operation)&&(decide (0≤((zg n d.arguments b.arguments).getD default))))) then
 some false
 else
 g ()
 else
 g ()
def zx.l1 (n:Nat) (t0:Judge) (d:Int→Option Bool) (b:Int):Option Bool:=
 if (decide (b<(t0.model.actions.length:Int))) then
 (idx t0.model.actions b).bind λa=>
 (zah n a.operation (t0.model.operations.length:Int)).bind λc=>
 grd ((!c)||(idx t0.model.operations a.operation).isSome) <|
 if ((!c)||((a.arguments.length:Int) != ((((idx t0.model.operations a.operation).getD default).sorts).length:Int))) then
 some false
 else
 (idx t0.model.operations a.operation).bind λe=>
 loopF (zx.l2 n t0 b d a e) n 0
 else
 some true
def zx (n:Nat) (t0:Judge):Option Bool:=
 if (decide (256<(t0.model.actions.length:Int))) then
 some false
 else
 loopF (zx.l1 n t0) n 0
def zcL (n:Nat) (t0:Hide) (t1:Int) (t2:GMap Int Bool):Option Bool:=
 some ((t0.table==t1)&&((t2.get? t0.to).getD false))
def zy.l1 (n:Nat) (t0:List Hide) (t1:Hide→Option Bool) (b:Int→Option Int) (a:Int):Option Int:=
 if (decide (a<(t0.length:Int))) then
 (idx t0 a).bind λc=>
 (t1 c).bind λd=>
 if d then
 some a
 else
 b (add64 a 1)
 else
 some (-1)
def zy (n:Nat) (t0:List Hide) (t1:Hide→Option Bool):Option Int:=
 loopF (zy.l1 n t0 t1) n 0
def zar (n:Nat) (t0:List Hide) (t1:Hide→Option Bool):Option Bool:=
 (zy n t0 t1).bind λa=>
 some (decide (0≤a))
def zf.l4 (n:Nat) (t0:Judge) (c:GMap Int Bool) (e:Int) (d:((GMap Int Bool)×Int)→Option Bool) (b:((GMap Int Bool)×(List Nat)×Nat)→Option Bool) (s:(GMap Int Bool)×(List Nat)×Nat):Option Bool:=
 stepM s.1 s.2.1 c.clock s.2.2 (
 d (s.1,add64 e 1)) λa=>
 grd (decide (s.1.es.map (·.1)).Nodup) <|
 (zar n t0.model.hides (λq0=>zcL n q0 a.2.1 s.1)).bind λf=>
 if (!f) then
 b ((s.1.del a.2.1),s.2.1++[a.1],s.1.clock)
 else
 b (s.1,s.2.1++[a.1],s.1.clock)
def zf.l3 (n:Nat) (t0:Judge) (a:((GMap Int Bool)×Int)→Option Bool) (s:(GMap Int Bool)×Int):Option Bool:=
 if (decide (s.2<(t0.model.hides.length:Int))) then
 loopF (zf.l4 n t0 s.1 s.2 a) n (s.1,([]:List Nat),s.1.clock)
 else
 some ((s.1.es.length:Int)==0)
def zf.l2 (n:Nat) (t0:Judge) (a:((GMap Int Bool)×Int)→Option Bool) (s:(GMap Int Bool)×Int):Option Bool:=
 if (decide (s.2<(t0.model.hides.length:Int))) then
 (idx t0.model.hides s.2).bind λb=>
 a ((s.1.put b.table true),add64 s.2 1)
 else
 loopF (zf.l3 n t0) n (s.1,0)
def zf.l1 (n:Nat) (t0:Judge) (f:Int→Option Bool) (d:Int):Option Bool:=
 if (decide (d<(t0.model.hides.length:Int))) then
 (idx t0.model.hides d).bind λa=>
 (zah n a.table (t0.model.tables.length:Int)).bind λe=>
 grd ((!e)||(zah n a.to (t0.model.tables.length:Int)).isSome) <|
 if (((!e)||(!((zah n a.to (t0.model.tables.length:Int)).getD default)))||(a.table==a.to)) then
 some false
 else
 (idx t0.model.tables a.table).bind λb=>
 (idx t0.model.tables a.to).bind λc=>
 grd (((b.kind != 0)||(c.kind != 0))||(zah n a.column (b.columns.length:Int)).isSome) <|
 grd (((((b.kind != 0)||(c.kind != 0))||(!((zah n a.column (b.columns.length:Int)).getD default)))||((c.columns.length:Int) != 1))||(idx c.columns 0).isSome) <|
 grd (((((b.kind != 0)||(c.kind != 0))||(!((zah n a.column (b.columns.length:Int)).getD default)))||((c.columns.length:Int) != 1))||(idx b.columns a.column).isSome) <|
 if (((((b.kind != 0)||(c.kind != 0))||(!((zah n a.column (b.columns.length:Int)).getD default)))||((c.columns.length:Int) != 1))||(((idx c.columns 0).getD default) != ((idx b.columns a.column).getD default))) then
 some false
 else
 f (add64 d 1)
 else
 loopF (zf.l2 n t0) n ((GMap.empty:GMap Int Bool),0)
def zf (n:Nat) (t0:Judge):Option Bool:=
 if (decide (12<(t0.model.hides.length:Int))) then
 some false
 else
 loopF (zf.l1 n t0) n 0
def zcr (n:Nat) (t0:Model):Option Bool:=
 (zbx n t0.sorts t0.tables).bind λc=>
 grd (((!c)||(decide (24<(t0.families.length:Int))))||(zak n t0.families).isSome) <|
 if (((!c)||(decide (24<(t0.families.length:Int))))||(!((zak n t0.families).getD default))) then
 some false
 else
 (zbr n t0.sorts t0.tables true).bind λa=>
 (zU n (⟨t0,a⟩:Judge)).bind λb=>
 grd (!b||(zA n (⟨t0,a⟩:Judge)).isSome) <|
 grd (!(b&&((zA n (⟨t0,a⟩:Judge)).getD default))||(zx n (⟨t0,a⟩:Judge)).isSome) <|
 grd (!((b&&((zA n (⟨t0,a⟩:Judge)).getD default))&&((zx n (⟨t0,a⟩:Judge)).getD default))||(zf n (⟨t0,a⟩:Judge)).isSome) <|
 some (((b&&((zA n (⟨t0,a⟩:Judge)).getD default))&&((zx n (⟨t0,a⟩:Judge)).getD default))&&((zf n (⟨t0,a⟩:Judge)).getD default))
def zi.l5 (n:Nat) (a:Int) (f:((List Place)×(List Place)×Int)→Option ((Option Layout)×Bool)) (h:Table) (e:List (List Int)) (g:((List Place)×(List Place)×Int)→Option ((Option Layout)×Bool)) (s:(List Place)×(List Place)×Int):Option ((Option Layout)×Bool):=
 if (decide (s.2.2<(e.length:Int))) then
 jn (λ(b:(List Place)×(List Place))=>
 g (b.1,b.2,add64 s.2.2 1)) λc=>
 (idx e s.2.2).bind λd=>
 if (decide (h.kind≤1)) then
 (app 32 s.1 [(⟨a,d⟩:Place)]).bind λi=>
 c (i,s.2.1)
 else
 (app 32 s.2.1 [(⟨a,d⟩:Place)]).bind λj=>
 c (s.1,j)
 else
 f (s.1,s.2.1,add64 a 1)
def zi.l4 (n:Nat) (c:Int) (a:((List (List Int))×Int)→Option ((Option Layout)×Bool)) (d:List Int) (e:Int) (b:((List (List Int))×Int)→Option ((Option Layout)×Bool)) (s:(List (List Int))×Int):Option ((Option Layout)×Bool):=
 if (decide (s.2<e)) then
 (app 8 [] d).bind λf=>
 (app 8 f [s.2]).bind λg=>
 (app 24 s.1 [g]).bind λh=>
 b (h,add64 s.2 1)
 else
 a (s.1,add64 c 1)
def zi.l3 (n:Nat) (t0:Model) (a:List (List Int)) (d:Int) (b:((List (List Int))×Int)→Option ((Option Layout)×Bool)) (e:Int) (c:((List (List Int))×Int)→Option ((Option Layout)×Bool)) (s:(List (List Int))×Int):Option ((Option Layout)×Bool):=
 if (decide (s.2<(a.length:Int))) then
 (idx a s.2).bind λf=>
 (idx t0.sorts e).bind λg=>
 loopF (zi.l4 n s.2 c f g) n (s.1,0)
 else
 b (s.1,add64 d 1)
def zi.l2 (n:Nat) (t0:Model) (b:List Place) (c:List Place) (f:Int) (d:((List Place)×(List Place)×Int)→Option ((Option Layout)×Bool)) (a:Table) (e:((List (List Int))×Int)→Option ((Option Layout)×Bool)) (s:(List (List Int))×Int):Option ((Option Layout)×Bool):=
 if (decide (s.2<(a.columns.length:Int))) then
 (idx a.columns s.2).bind λg=>
 loopF (zi.l3 n t0 s.1 s.2 e g) n (([]:List (List Int)),0)
 else
 loopF (zi.l5 n f d a s.1) n (b,c,0)
def zi.l1 (n:Nat) (t0:Model) (a:((List Place)×(List Place)×Int)→Option ((Option Layout)×Bool)) (s:(List Place)×(List Place)×Int):Option ((Option Layout)×Bool):=
 if (decide (s.2.2<(t0.tables.length:Int))) then
 (idx t0.tables s.2.2).bind λb=>
 loopF (zi.l2 n t0 s.1 s.2.1 s.2.2 a b) n ([[]],0)
 else
 some (some ((⟨t0,s.1,s.2.1⟩:Layout)),true)
def zi (n:Nat) (t0:Model):Option ((Option Layout)×Bool):=
 (zcr n t0).bind λa=>
 if (!a) then
 some (none,false)
 else
 loopF (zi.l1 n t0) n (([]:List Place),([]:List Place),0)
def zbk (n:Nat) (t0:Layout) (t1:Question):Option Bool:=
 if (((((decide (t1.e<0))||(decide (t1.f<0)))||(decide ((t0.m.actions.length:Int)≤t1.e)))||(decide ((t0.m.actions.length:Int)≤t1.f)))||(decide (t1.target.index<0))) then
 some false
 else
 if t1.target.hold then
 (idx t0.m.actions t1.e).bind λa=>
 some (decide (t1.target.index<(a.effect.hold.length:Int)))
 else
 some ((decide (t1.e≤t1.f))&&(decide (t1.target.index<(t0.m.constraints.length:Int))))
def zdN (n:Nat) (t0:Model) (t1:Question):Option Bool:=
 (zi n t0).bind λa=>
 grd (!a.2||(a.1).isSome) <|
 grd (!a.2||(zbk n ((a.1).getD default) t1).isSome) <|
 some (a.2&&((zbk n ((a.1).getD default) t1).getD default))
def zgq (n:Nat) (t0:Model) (t1:Bool):Option (List Range):=
 (zcr n t0).bind λb=>
 if (!b) then
 some ([]:List Range)
 else
 (zbr n t0.sorts t0.tables t1).bind λa=>
 some a
def zc0 (n:Nat) (t0:Model):Option (List Range):=
 (zgq n t0 true).bind λa=>
 some a
def zbv (n:Nat) (t0:Model) (t1:Scenario):Option Bool:=
 (zdN n t0 t1.question).bind λa=>
 grd (!a||(zc0 n t0).isSome) <|
 some (a&&((t1.state.length:Int)==(((zc0 n t0).getD default).length:Int)))
def zfU (n:Nat) (t0:Int):Option Bool:=
 some ((decide (t0<(-1000000)))||(decide (1000000<t0)))
def zO (n:Nat) (t0:List Int):Option Bool:=
 (zh n t0 (λq0=>zfU n q0)).bind λa=>
 some (!a)
def strconv_Itoa (n:Nat) (t0:Int):Option (List UInt8):=if -9223372036854775808≤t0∧t0≤9223372036854775807 then some (itoaL t0) else none
def strings_Join (n:Nat) (t0:List (List UInt8)) (t1:List UInt8):Option (List UInt8):=if t0.length≤140737488355328∧(Lib.join t0 t1).length≤140737488355328 then some (Lib.join t0 t1) else none
def zX.l1 (n:Nat) (t0:List Int) (t1:List UInt8) (t2:Int→Option (List UInt8)) (a:((List (List UInt8))×Int)→Option (List UInt8)) (s:(List (List UInt8))×Int):Option (List UInt8):=
 if (decide (s.2<(t0.length:Int))) then
 (idx t0 s.2).bind λb=>
 (t2 b).bind λc=>
 (app 16 s.1 [c]).bind λd=>
 a (d,add64 s.2 1)
 else
 (strings_Join n s.1 t1).bind λe=>
 some e
def zX (n:Nat) (t0:List Int) (t1:List UInt8) (t2:Int→Option (List UInt8)):Option (List UInt8):=
 loopF (zX.l1 n t0 t1 t2) n (([]:List (List UInt8)),0)
def zcd (n:Nat) (t0:List Int) (t1:List UInt8):Option (List UInt8):=
 (zX n t0 t1 (λq0=>strconv_Itoa n q0)).bind λa=>
 some a
def zce.l1 (n:Nat) (t0:Scenario) (m:List UInt8) (a:((List UInt8)×Int)→Option (List UInt8)) (s:(List UInt8)×Int):Option (List UInt8):=
 if (decide (s.2<(t0.state.length:Int))) then
 (idx t0.state s.2).bind λb=>
 (strconv_Itoa n b).bind λc=>
 (cat [32] c).bind λd=>
 (cat s.1 d).bind λg=>
 a (g,add64 s.2 1)
 else
 (zcd n [t0.question.e,t0.question.f] [32]).bind λh=>
 (cat [97,99,116,105,111,110,115,32] h).bind λi=>
 (cat i [10,116,97,114,103,101,116,32]).bind λj=>
 (cat j m).bind λk=>
 (cat k [32]).bind λl=>
 (strconv_Itoa n t0.question.target.index).bind λo=>
 (cat l o).bind λp=>
 (cat p [10,115,116,97,116,101]).bind λq=>
 (cat q s.1).bind λr=>
 (cat r [10]).bind λt=>
 some t
def zce (n:Nat) (t0:Scenario):Option (List UInt8):=
 jn (λ(b:(List UInt8))=>
 loopF (zce.l1 n t0 b) n ([],0)) λa=>
 if t0.question.target.hold then
 a [104,111,108,100]
 else
 a [99,111,110,115,116,114,97,105,110,116]
def zgD (n:Nat) (t0:Model) (t1:Scenario):Option ((List UInt8)×Int):=
 (zbv n t0 t1).bind λa=>
 grd ((!a)||(zO n t1.state).isSome) <|
 if ((!a)||(!((zO n t1.state).getD default))) then
 some ([],1)
 else
 (zce n t1).bind λb=>
 some (b,0)
def strings_Split (n:Nat) (t0:List UInt8) (t1:List UInt8):Option (List (List UInt8)):=match t1 with
 | [c]=>if t0.length<4294967281 then some (zgG c t0) else none
 | _=>none
def zbS (n:Nat) (c0:List (List UInt8)) (c1:Bool) (t1:List UInt8):Option ((List (List UInt8))×(List (List UInt8))×Bool):=
 if ((c0.length:Int)==0) then
 some (([]:List (List UInt8)),c0,false)
 else
 (idx c0 0).bind λb=>
 (strings_Split n b [32]).bind λa=>
 (cut c0 1 (c0.length:Int)).bind λc=>
 grd (!c1||(idx a 0).isSome) <|
 (cut a 1 (a.length:Int)).bind λd=>
 some (d,c,c1&&(decide (((idx a 0).getD default)=t1)))
def zgH (n:Nat) (t0:List UInt8):Option (Int×Bool):=if t0.length≤281474976710656 then (match Lib.atoiAll t0 with
 | .ok v=>some (v,false)
 | .range=>some (Lib.atoiSat t0,true)
 | _=>some (0,true)) else none
def zaG.l1 (n:Nat) (c0:List (List UInt8)) (t1:List (List UInt8)) (b:((List Int)×Bool×Int)→Option ((List Int)×(List (List UInt8))×Bool)) (s:(List Int)×Bool×Int):Option ((List Int)×(List (List UInt8))×Bool):=
 if (decide (s.2.2<(t1.length:Int))) then
 (idx t1 s.2.2).bind λc=>
 (zgH n c).bind λa=>
 (app 8 s.1 [a.1]).bind λd=>
 b (d,s.2.1&&(!a.2),add64 s.2.2 1)
 else
 some (s.1,c0,s.2.1)
def zaG (n:Nat) (c0:List (List UInt8)) (c1:Bool) (t1:List (List UInt8)):Option ((List Int)×(List (List UInt8))×Bool):=
 loopF (zaG.l1 n c0 t1) n (([]:List Int),c1,0)
def zij (n:Nat) (t0:List UInt8):Option (Scenario×Bool):=
 (strings_Split n t0 [10]).bind λk=>
 (zbS n k true [97,99,116,105,111,110,115]).bind λe=>
 (zaG n e.2.1 e.2.2 e.1).bind λa=>
 (zbS n a.2.1 a.2.2 [116,97,114,103,101,116]).bind λd=>
 (zbS n d.2.1 d.2.2 [115,116,97,116,101]).bind λf=>
 (zaG n f.2.1 f.2.2 f.1).bind λb=>
 if (((!b.2.2)||((a.1.length:Int) != 2))||((d.1.length:Int) != 2)) then
 some ((⟨(⟨0,0,(⟨false,0⟩:Target)⟩:Question),b.1⟩:Scenario),false)
 else
 (idx a.1 0).bind λg=>
 (idx a.1 1).bind λh=>
 (idx d.1 0).bind λi=>
 (cut d.1 1 (d.1.length:Int)).bind λl=>
 (zaG n b.2.1 b.2.2 l).bind λc=>
 (idx c.1 0).bind λj=>
 grd (!c.2.2||(zO n a.1).isSome) <|
 grd (!(c.2.2&&((zO n a.1).getD default))||(zO n c.1).isSome) <|
 grd (!((c.2.2&&((zO n a.1).getD default))&&((zO n c.1).getD default))||(zO n b.1).isSome) <|
 grd (!(((c.2.2&&((zO n a.1).getD default))&&((zO n c.1).getD default))&&((zO n b.1).getD default))||(zce n (⟨(⟨g,h,(⟨decide (i=[104,111,108,100]),j⟩:Target)⟩:Question),b.1⟩:Scenario)).isSome) <|
 some ((⟨(⟨g,h,(⟨decide (i=[104,111,108,100]),j⟩:Target)⟩:Question),b.1⟩:Scenario),(((c.2.2&&((zO n a.1).getD default))&&((zO n c.1).getD default))&&((zO n b.1).getD default))&&(decide (((zce n (⟨(⟨g,h,(⟨decide (i=[104,111,108,100]),j⟩:Target)⟩:Question),b.1⟩:Scenario)).getD default)=t0)))
def zho (n:Nat) (t0:Model) (t1:List UInt8):Option (Scenario×Int):=
 if (decide (65536<(t1.length:Int))) then
 some ((⟨(⟨0,0,(⟨false,0⟩:Target)⟩:Question),[]⟩:Scenario),8)
 else
 (zij n t1).bind λa=>
 if (!a.2) then
 some ((⟨(⟨0,0,(⟨false,0⟩:Target)⟩:Question),[]⟩:Scenario),3)
 else
 (zbv n t0 a.1).bind λb=>
 if (!b) then
 some ((⟨(⟨0,0,(⟨false,0⟩:Target)⟩:Question),[]⟩:Scenario),1)
 else
 some (a.1,0)
def zaL.l1 (n:Nat) (t0:Row) (t1:List Int) (b:(Int×Int)→Option Int) (s:Int×Int):Option Int:=
 if (decide (s.2<(t0.terms.length:Int))) then
 (idx t0.terms s.2).bind λa=>
 (idx t1 a.cell).bind λc=>
 b (add64 s.1 (mul64 a.factor c),add64 s.2 1)
 else
 some s.1
def zaL (n:Nat) (t0:Row) (t1:List Int):Option Int:=
 loopF (zaL.l1 n t0 t1) n (0,0)
def zeK (n:Nat) (t0:Int) (t1:List Bool):Option (DGraph×Bool):=
 some ((⟨t0,t1⟩:DGraph),((decide (1≤t0))&&(decide (t0≤6)))&&((t1.length:Int)==(mul64 t0 t0)))
def zaS (n:Nat) (t0:DGraph) (t1:Int) (t2:Int):Option Bool:=
 (idx t0.edges (add64 (mul64 t1 t0.size) t2)).bind λa=>
 some a
def zad.l1 (n:Nat) (t0:List Int) (t1:Int) (b:Int→Option Int) (a:Int):Option Int:=
 if (decide (a<(t0.length:Int))) then
 (idx t0 a).bind λc=>
 if (t1==c) then
 some a
 else
 b (add64 a 1)
 else
 some (-1)
def zad (n:Nat) (t0:List Int) (t1:Int):Option Int:=
 loopF (zad.l1 n t0 t1) n 0
def zaV (n:Nat) (t0:List Int) (t1:Int):Option Bool:=
 (zad n t0 t1).bind λa=>
 some (decide (0≤a))
def zcC.l1 (n:Nat) (t0:List Int) (c:Int→Option Int) (a:Int):Option Int:=
 if (decide (a<(t0.length:Int))) then
 (idx t0 a).bind λb=>
 if (b != 0) then
 some b
 else
 c (add64 a 1)
 else
 some 0
def zcC (n:Nat) (t0:List Int):Option Int:=
 loopF (zcC.l1 n t0) n 0
def zcn (n:Nat) (t0:List Int) (t1:List Int):Option Int:=
 (zbV n (t0.length:Int) (t1.length:Int)).bind λc=>
 (zg n t0 t1).bind λa=>
 (zcC n [c,a]).bind λb=>
 some b
def zT.l1 (n:Nat) (g:DGraph) (v:List Int→List (List Int)→Option (List (List Int))) (l:List Int) (last:Int) (rec:Int×List (List Int)→Option (List (List Int))) (s:Int×List (List Int)):Option (List (List Int)):=
 if (decide (s.1<g.size)) then
 (zaS n g last s.1).bind λe=>
 if e then
 (zaV n l s.1).bind λf=>
 if f=true then rec (add64 s.1 1,s.2)
 else
 (app 8 [] l).bind λc=>
 (app 8 c [s.1]).bind λl2=>
 (v l2 s.2).bind λout=>
 rec (add64 s.1 1,out)
 else rec (add64 s.1 1,s.2)
 else some s.2
def zT (n:Nat) (g:DGraph):Nat→List Int→List (List Int)→Option (List (List Int))
 | 0,_,_=>none
 | k+1,l,out=>
 (idx l (sub64 (l.length:Int) 1)).bind λlast=>
 (idx l 0).bind λfirst=>
 (zaS n g last first).bind λe=>
 if e then
 (app 8 [] l).bind λc=>
 (app 24 out [c]).bind λout=>
 loopF (zT.l1 n g (zT n g k) l last) n (add64 first 1,out)
 else loopF (zT.l1 n g (zT n g k) l last) n (add64 first 1,out)
def digraph_cycles.l1 (n:Nat) (g:DGraph) (rec:Int×List (List Int)→Option (List (List Int))) (s:Int×List (List Int)):Option (List (List Int)):=
 if (decide (s.1<g.size)) then
 (zT n g n [s.1] s.2).bind λout=>
 rec (add64 s.1 1,out)
 else some s.2
def zcN (n:Nat) (t0:Int) (t1:List Bool):Option (List (List Int)):=
 (zeK n t0 t1).bind λo=>
 if (!o.2)=true then some []
 else
 (loopF (digraph_cycles.l1 n o.1) n (0,[])).bind λout=>
 sortO (zcn n) out
def zd6 (n:Nat) (t0:Int) (t1:List Bool):Option (List Int):=
 (zcN n t0 t1).bind λa=>
 if ((a.length:Int)==0) then
 some ([]:List Int)
 else
 (idx a 0).bind λb=>
 some b
def zaM.l1 (n:Nat) (t0:Constraint) (t1:List Int) (c:List Bool) (b:((List Bool)×Int)→Option (List Int)) (s:(List Bool)×Int):Option (List Int):=
 if (decide (s.2<(c.length:Int))) then
 (idx t1 (add64 t0.first s.2)).bind λd=>
 (idx s.1 s.2).bind λf=>
 (sto s.1 s.2 (decide (1≤d))).bind λa=>
 b (a,add64 s.2 1)
 else
 (zd6 n t0.size s.1).bind λe=>
 some e
def zaM (n:Nat) (t0:Constraint) (t1:List Int):Option (List Int):=
 (mkl 1 (mul64 t0.size t0.size) (false:Bool)).bind λa=>
 loopF (zaM.l1 n t0 t1 a) n (a,0)
def zbg (n:Nat) (t0:Constraint) (t1:List Int):Option Bool:=
 if (t0.kind==0) then
 (zaL n t0.row t1).bind λa=>
 some (decide (a≤t0.row.bound))
 else
 (zaM n t0 t1).bind λb=>
 some ((b.length:Int)==0)
def zaD.l1 (n:Nat) (t0:Model) (t1:List Int) (c:((List Int)×Int)→Option (List Int)) (s:(List Int)×Int):Option (List Int):=
 if (decide (s.2<(t0.constraints.length:Int))) then
 jn (λ(b:(List Int))=>
 c (b,add64 s.2 1)) λa=>
 (idx t0.constraints s.2).bind λd=>
 (zbg n d t1).bind λe=>
 if (!e) then
 (app 8 s.1 [s.2]).bind λf=>
 a f
 else
 a s.1
 else
 some s.1
def zaD (n:Nat) (t0:Model) (t1:List Int):Option (List Int):=
 loopF (zaD.l1 n t0 t1) n (([]:List Int),0)
def zm.l2 (n:Nat) (f:Int) (d:((List Int)×Int)→Option (List Int)) (b:Action) (e:((List Int)×Int)→Option (List Int)) (s:(List Int)×Int):Option (List Int):=
 if (decide (s.2<(b.effect.delta.length:Int))) then
 (idx b.effect.delta s.2).bind λa=>
 (idx s.1 a.cell).bind λg=>
 (idx s.1 a.cell).bind λh=>
 (sto s.1 a.cell (add64 g a.add)).bind λc=>
 e (c,add64 s.2 1)
 else
 d (s.1,add64 f 1)
def zm.l1 (n:Nat) (t0:Model) (t2:List Int) (a:((List Int)×Int)→Option (List Int)) (s:(List Int)×Int):Option (List Int):=
 if (decide (s.2<(t2.length:Int))) then
 (idx t2 s.2).bind λb=>
 (idx t0.actions b).bind λc=>
 loopF (zm.l2 n s.2 a c) n (s.1,0)
 else
 some s.1
def zm (n:Nat) (t0:Model) (t1:List Int) (t2:List Int):Option (List Int):=
 (app 8 [] t1).bind λa=>
 loopF (zm.l1 n t0 t2) n (a,0)
def zM.l1 (n:Nat) (t0:Model) (t1:Int) (t2:List Int) (b:Action) (d:Int→Option Bool) (a:Int):Option Bool:=
 if (decide (a<(b.effect.hold.length:Int))) then
 (idx b.effect.hold a).bind λc=>
 (zaL n c t2).bind λe=>
 if (decide (c.bound<e)) then
 some false
 else
 d (add64 a 1)
 else
 (zm n t0 t2 [t1]).bind λf=>
 (zaD n t0 f).bind λg=>
 some ((g.length:Int)==0)
def zM (n:Nat) (t0:Model) (t1:Int) (t2:List Int):Option Bool:=
 (idx t0.actions t1).bind λa=>
 loopF (zM.l1 n t0 t1 t2 a) n 0
def ze.l2 (n:Nat) (t0:Model) (t1:Scenario) (t2:List Int) (b:List Int) (g:Int→Option Bool) (c:Int):Option Bool:=
 if (decide (c<(t2.length:Int))) then
 (idx t2 c).bind λa=>
 grd (!(t1.question.target.hold||(a != t1.question.target.index))||(idx t0.constraints a).isSome) <|
 grd (!(t1.question.target.hold||(a != t1.question.target.index))||(zbg n ((idx t0.constraints a).getD default) b).isSome) <|
 if ((t1.question.target.hold||(a != t1.question.target.index))&&(!((zbg n ((idx t0.constraints a).getD default) b).getD default))) then
 some false
 else
 g (add64 c 1)
 else
 if t1.question.target.hold then
 (idx t0.actions t1.question.e).bind λh=>
 (idx h.effect.hold t1.question.target.index).bind λd=>
 (zm n t0 t1.state [t1.question.f]).bind λi=>
 (zaL n d i).bind λj=>
 some (decide (d.bound<j))
 else
 (idx t0.constraints t1.question.target.index).bind λk=>
 (zbg n k b).bind λl=>
 some (!l)
def ze.l1 (n:Nat) (t0:Model) (t1:Scenario) (t2:List Int) (d:Int→Option Bool) (b:Int):Option Bool:=
 if (decide (b<(t2.length:Int))) then
 (idx t2 b).bind λa=>
 grd (((decide (a<0))||(decide ((t0.constraints.length:Int)≤a)))||(idx t0.constraints a).isSome) <|
 if (((decide (a<0))||(decide ((t0.constraints.length:Int)≤a)))||((((idx t0.constraints a).getD default).kind) != 0)) then
 some false
 else
 d (add64 b 1)
 else
 (zaD n t0 t1.state).bind λc=>
 grd ((decide (0<(c.length:Int)))||(zM n t0 t1.question.e t1.state).isSome) <|
 grd (((decide (0<(c.length:Int)))||(!((zM n t0 t1.question.e t1.state).getD default)))||(zM n t0 t1.question.f t1.state).isSome) <|
 if (((decide (0<(c.length:Int)))||(!((zM n t0 t1.question.e t1.state).getD default)))||(!((zM n t0 t1.question.f t1.state).getD default))) then
 some false
 else
 (zm n t0 t1.state [t1.question.e,t1.question.f]).bind λg=>
 loopF (ze.l2 n t0 t1 t2 g) n 0
def ze (n:Nat) (t0:Model) (t1:Scenario) (t2:List Int):Option Bool:=
 (zbv n t0 t1).bind λa=>
 if (!a) then
 some false
 else
 loopF (ze.l1 n t0 t1 t2) n 0
def zaX (n:Nat) (t0:List UInt8) (t1:List Int):Option (List UInt8):=
 (cat t0 [40]).bind λb=>
 (zcd n t1 [44,32]).bind λc=>
 (cat b c).bind λd=>
 (cat d [41]).bind λa=>
 some a
def zl.l3 (n:Nat) (t0:Model) (b:Table) (e:((List Int)×Int×Int)→Option (List UInt8)) (s:(List Int)×Int×Int):Option (List UInt8):=
 let a:=s.2.2
 if (decide (0≤a)) then
 (idx b.columns a).bind λf=>
 (idx t0.sorts f).bind λc=>
 (rem64 s.2.1 c).bind λg=>
 (quo64 s.2.1 c).bind λh=>
 (idx s.1 a).bind λj=>
 (sto s.1 a g).bind λd=>
 e (d,h,sub64 a 1)
 else
 (zaX n b.name s.1).bind λi=>
 some i
def zl.l2 (n:Nat) (t0:Model) (t1:Int) (c:Unit→Option (List UInt8)) (a:Table) (d:(Int×Int)→Option (List UInt8)) (s:Int×Int):Option (List UInt8):=
 if (decide (s.2<(a.columns.length:Int))) then
 (idx a.columns s.2).bind λe=>
 (idx t0.sorts e).bind λf=>
 d (mul64 s.1 f,add64 s.2 1)
 else
 if ((decide (t1<a.first))||(decide (add64 a.first s.1≤t1))) then
 c ()
 else
 (mkl 8 (a.columns.length:Int) (0:Int)).bind λb=>
 loopF (zl.l3 n t0 a) n (b,sub64 t1 a.first,sub64 (b.length:Int) 1)
def zl.l1 (n:Nat) (t0:Model) (t1:Int) (d:Int→Option (List UInt8)) (a:Int):Option (List UInt8):=
 if (decide (a<(t0.tables.length:Int))) then
 jn (λ(e:Unit)=>
 d (add64 a 1)) λb=>
 (idx t0.tables a).bind λc=>
 if (decide (1<c.kind)) then
 b ()
 else
 loopF (zl.l2 n t0 t1 b c) n (1,0)
 else
 some []
def zl (n:Nat) (t0:Model) (t1:Int):Option (List UInt8):=
 loopF (zl.l1 n t0 t1) n 0
def zcy (n:Nat) (t0:Int) (t1:Model) (t2:Scenario):Option (List UInt8):=
 (zl n t1 t0).bind λd=>
 (cat d [32,61,32]).bind λe=>
 (idx t2.state t0).bind λa=>
 (strconv_Itoa n a).bind λb=>
 (cat e b).bind λc=>
 some c
def zbj (n:Nat) (t0:Model) (t1:Int):Option (List UInt8):=
 (idx t0.actions t1).bind λa=>
 (idx t0.operations a.operation).bind λb=>
 (zaX n b.name a.arguments).bind λc=>
 some c
def zbu.l1 (n:Nat) (t0:Model) (t1:Row) (f:((List UInt8)×Int)→Option (List UInt8)) (s:(List UInt8)×Int):Option (List UInt8):=
 if (decide (s.2<(t1.terms.length:Int))) then
 (idx t1.terms s.2).bind λa=>
 jn (λ(e:(List UInt8))=>
 jn (λ(m:(List UInt8))=>
 (zl n t0 a.cell).bind λp=>
 (cat m p).bind λq=>
 f (q,add64 s.2 1)) λc=>
 if ((a.factor != 1)&&(a.factor != (-1))) then
 (strconv_Itoa n (gmax a.factor (neg64 a.factor))).bind λj=>
 (cat j [32,42,32]).bind λk=>
 (cat e k).bind λl=>
 c l
 else
 c e) λb=>
 if ((s.2==0)&&(decide (a.factor<0))) then
 (cat s.1 [45]).bind λg=>
 b g
 else
 if ((decide (0<s.2))&&(decide (a.factor<0))) then
 (cat s.1 [32,45,32]).bind λh=>
 b h
 else
 if (decide (0<s.2)) then
 (cat s.1 [32,43,32]).bind λi=>
 b i
 else
 b s.1
 else
 jn (λ(o:(List UInt8))=>
 (cat o [32,60,61,32]).bind λr=>
 (strconv_Itoa n t1.bound).bind λt=>
 (cat r t).bind λu=>
 some u) λd=>
 if (decide (s.1=[])) then
 d [48]
 else
 d s.1
def zbu (n:Nat) (t0:Model) (t1:Row):Option (List UInt8):=
 loopF (zbu.l1 n t0 t1) n ([],0)
def zbB (n:Nat) (t0:Row) (t1:List Int) (t2:Model):Option (List UInt8):=
 (zbu n t2 t0).bind λd=>
 (cat d [32,100,111,101,115,32,110,111,116,32,104,111,108,100,58,32]).bind λe=>
 (zaL n t0 t1).bind λa=>
 (strconv_Itoa n a).bind λb=>
 (cat e b).bind λc=>
 some c
def zS (n:Nat) (t0:Model) (t1:Scenario):Option (List Int):=
 (zbv n t0 t1).bind λb=>
 if (!b) then
 some ([]:List Int)
 else
 (zm n t0 t1.state [t1.question.e,t1.question.f]).bind λa=>
 some a
def zaO.l1 (n:Nat) (t0:Model) (t1:Scenario) (l:((List Int)×Int)→Option ((List (List UInt8))×Int)) (s:(List Int)×Int):Option ((List (List UInt8))×Int):=
 if (decide (s.2<(t1.state.length:Int))) then
 jn (λ(k:(List Int))=>
 l (k,add64 s.2 1)) λg=>
 (idx t1.state s.2).bind λz=>
 if (z != 0) then
 (app 8 s.1 [s.2]).bind λA=>
 g A
 else
 g s.1
 else
 jn (λ(b:(List UInt8))=>
 (zbj n t0 t1.question.e).bind λD=>
 (cat [114,101,112,108,105,99,97,32,48,32,101,120,101,99,117,116,101,115,32] D).bind λc=>
 (zbj n t0 t1.question.f).bind λE=>
 (cat [114,101,112,108,105,99,97,32,49,32,101,120,101,99,117,116,101,115,32] E).bind λd=>
 (zS n t0 t1).bind λj=>
 if t1.question.target.hold then
 (idx t0.actions t1.question.e).bind λF=>
 (idx F.effect.hold t1.question.target.index).bind λG=>
 (zm n t0 t1.state [t1.question.f]).bind λH=>
 (zbB n G H t0).bind λI=>
 (cat [98,101,104,105,110,100,32,116,104,101,32,115,101,99,111,110,100,32,97,99,116,105,111,110,32] I).bind λJ=>
 (app 16 ([b,c,d]:List (List UInt8)) [J]).bind λK=>
 some (K,0)
 else
 (idx t0.constraints t1.question.target.index).bind λa=>
 (idx t0.families a.family).bind λm=>
 (cat [98,101,104,105,110,100,32,98,111,116,104,32] m).bind λo=>
 (cat o [58,32]).bind λi=>
 if (a.kind==0) then
 (zbB n a.row j t0).bind λp=>
 (cat i p).bind λq=>
 (app 16 ([b,c,d]:List (List UInt8)) [q]).bind λr=>
 some (r,0)
 else
 (cat i [116,104,101,114,101,32,105,115,32,97,32,99,121,99,108,101,32,116,104,114,111,117,103,104,32]).bind λt=>
 (zaM n a j).bind λu=>
 (zcd n u [44,32]).bind λw=>
 (cat t w).bind λx=>
 (app 16 ([b,c,d]:List (List UInt8)) [x]).bind λy=>
 some (y,0)) λh=>
 if (decide (0<(s.1.length:Int))) then
 (zX n s.1 [44,32] (λq0=>zcy n q0 t0 t1)).bind λB=>
 (cat [105,110,32,116,104,101,32,115,116,97,116,101,32,119,105,116,104,32] B).bind λC=>
 h C
 else
 h [105,110,32,116,104,101,32,115,116,97,116,101,32,119,105,116,104,32,48,32,101,118,101,114,121,119,104,101,114,101]
def zaO (n:Nat) (t0:Model) (t1:Scenario):Option ((List (List UInt8))×Int):=
 (ze n t0 t1 ([]:List Int)).bind λa=>
 if (!a) then
 some (([]:List (List UInt8)),1)
 else
 loopF (zaO.l1 n t0 t1) n (([]:List Int),0)
def zed.l1 (n:Nat) (t0:List Int) (t1:List Int) (b:Int→Option Bool) (a:Int):Option Bool:=
 if (decide (a<(t0.length:Int))) then
 (idx t0 a).bind λc=>
 (idx t1 a).bind λd=>
 if (c != d) then
 some false
 else
 b (add64 a 1)
 else
 some true
def zed (n:Nat) (t0:List Int) (t1:List Int):Option Bool:=
 if ((t0.length:Int) != (t1.length:Int)) then
 some false
 else
 loopF (zed.l1 n t0 t1) n 0
def zbf (n:Nat) (t0:Scenario) (t1:Scenario):Option Bool:=
 grd (!(decide ((t0.question:Question)=t1.question))||(zed n t0.state t1.state).isSome) <|
 some ((decide ((t0.question:Question)=t1.question))&&((zed n t0.state t1.state).getD default))
def zb.l1 (n:Nat) (t0:List (List UInt8)) (t1:List (List UInt8)) (b:Int→Option Bool) (a:Int):Option Bool:=
 if (decide (a<(t0.length:Int))) then
 (idx t0 a).bind λc=>
 (idx t1 a).bind λd=>
 if (!decide (c=d)) then
 some false
 else
 b (add64 a 1)
 else
 some true
def zb (n:Nat) (t0:List (List UInt8)) (t1:List (List UInt8)):Option Bool:=
 if ((t0.length:Int) != (t1.length:Int)) then
 some false
 else
 loopF (zb.l1 n t0 t1) n 0
def zj.l1 (n:Nat) (t0:List Int) (t1:List Int) (b:Int→Option Bool) (a:Int):Option Bool:=
 if (decide (a<(t0.length:Int))) then
 (idx t0 a).bind λc=>
 (idx t1 a).bind λd=>
 if (c != d) then
 some false
 else
 b (add64 a 1)
 else
 some true
def zj (n:Nat) (t0:List Int) (t1:List Int):Option Bool:=
 if ((t0.length:Int) != (t1.length:Int)) then
 some false
 else
 loopF (zj.l1 n t0 t1) n 0
def za3 (n:Nat) (t0:Model) (t1:Scenario):Option (List Int):=
 (zbv n t0 t1).bind λc=>
 if (!c) then
 some ([]:List Int)
 else
 (zS n t0 t1).bind λa=>
 (zaD n t0 a).bind λb=>
 some b
def zcl.l1 (n:Nat) (t0:Model) (t1:Row) (b:(Int×Int)→Option Bool) (s:Int×Int):Option Bool:=
 if (decide (s.2<(t1.terms.length:Int))) then
 (idx t1.terms s.2).bind λa=>
 grd (((((decide (a.cell≤s.1))||(a.factor==0))||(decide (a.factor<(-1000))))||(decide (1000<a.factor)))||(zl n t0 a.cell).isSome) <|
 if (((((decide (a.cell≤s.1))||(a.factor==0))||(decide (a.factor<(-1000))))||(decide (1000<a.factor)))||(decide (((zl n t0 a.cell).getD default)=[]))) then
 some false
 else
 b (a.cell,add64 s.2 1)
 else
 some ((decide ((-1000000000)≤t1.bound))&&(decide (t1.bound≤1000000000)))
def zcl (n:Nat) (t0:Model) (t1:Row):Option Bool:=
 loopF (zcl.l1 n t0 t1) n ((-1),0)
def zc2 (n:Nat) (t0:Model) (t1:Row):Option (List UInt8):=
 (zcr n t0).bind λa=>
 grd ((!a)||(zcl n t0 t1).isSome) <|
 if ((!a)||(!((zcl n t0 t1).getD default))) then
 some []
 else
 (zbu n t0 t1).bind λb=>
 some b
def zdi (n:Nat) (t0:Model) (t1:Int):Option (List UInt8):=
 (zcr n t0).bind λb=>
 if (!b) then
 some []
 else
 (zl n t0 t1).bind λa=>
 some a
def zdh (n:Nat) (t0:Model) (t1:Int):Option (List UInt8):=
 (zcr n t0).bind λb=>
 if (((!b)||(decide (t1<0)))||(decide ((t0.actions.length:Int)≤t1))) then
 some []
 else
 (zbj n t0 t1).bind λa=>
 some a
def zhu (n:Nat):Option Bool:=
 (zhS n ).bind λa=>
 (zgD n a (⟨(⟨0,0,(⟨false,1⟩:Target)⟩:Question),[0]⟩:Scenario)).bind λb=>
 (zho n a b.1).bind λc=>
 (zaO n a (⟨(⟨0,0,(⟨false,1⟩:Target)⟩:Question),[0]⟩:Scenario)).bind λd=>
 grd (!(((b.2==0)&&(decide (b.1=[97,99,116,105,111,110,115,32,48,32,48,10,116,97,114,103,101,116,32,99,111,110,115,116,114,97,105,110,116,32,49,10,115,116,97,116,101,32,48,10])))&&(c.2==0))||(zbf n c.1 (⟨(⟨0,0,(⟨false,1⟩:Target)⟩:Question),[0]⟩:Scenario)).isSome) <|
 grd (!(((((b.2==0)&&(decide (b.1=[97,99,116,105,111,110,115,32,48,32,48,10,116,97,114,103,101,116,32,99,111,110,115,116,114,97,105,110,116,32,49,10,115,116,97,116,101,32,48,10])))&&(c.2==0))&&((zbf n c.1 (⟨(⟨0,0,(⟨false,1⟩:Target)⟩:Question),[0]⟩:Scenario)).getD default))&&(d.2==0))||(zb n d.1 [[105,110,32,116,104,101,32,115,116,97,116,101,32,119,105,116,104,32,48,32,101,118,101,114,121,119,104,101,114,101],[114,101,112,108,105,99,97,32,48,32,101,120,101,99,117,116,101,115,32,116,119,111,40,41],[114,101,112,108,105,99,97,32,49,32,101,120,101,99,117,116,101,115,32,116,119,111,40,41],[98,101,104,105,110,100,32,98,111,116,104,32,99,58,32,99,40,41,32,60,61,32,51,32,100,111,101,115,32,110,111,116,32,104,111,108,100,58,32,52]]).isSome) <|
 grd (!((((((b.2==0)&&(decide (b.1=[97,99,116,105,111,110,115,32,48,32,48,10,116,97,114,103,101,116,32,99,111,110,115,116,114,97,105,110,116,32,49,10,115,116,97,116,101,32,48,10])))&&(c.2==0))&&((zbf n c.1 (⟨(⟨0,0,(⟨false,1⟩:Target)⟩:Question),[0]⟩:Scenario)).getD default))&&(d.2==0))&&((zb n d.1 [[105,110,32,116,104,101,32,115,116,97,116,101,32,119,105,116,104,32,48,32,101,118,101,114,121,119,104,101,114,101],[114,101,112,108,105,99,97,32,48,32,101,120,101,99,117,116,101,115,32,116,119,111,40,41],[114,101,112,108,105,99,97,32,49,32,101,120,101,99,117,116,101,115,32,116,119,111,40,41],[98,101,104,105,110,100,32,98,111,116,104,32,99,58,32,99,40,41,32,60,61,32,51,32,100,111,101,115,32,110,111,116,32,104,111,108,100,58,32,52]]).getD default))||(ze n a (⟨(⟨0,0,(⟨false,1⟩:Target)⟩:Question),[0]⟩:Scenario) ([]:List Int)).isSome) <|
 grd (!(((((((b.2==0)&&(decide (b.1=[97,99,116,105,111,110,115,32,48,32,48,10,116,97,114,103,101,116,32,99,111,110,115,116,114,97,105,110,116,32,49,10,115,116,97,116,101,32,48,10])))&&(c.2==0))&&((zbf n c.1 (⟨(⟨0,0,(⟨false,1⟩:Target)⟩:Question),[0]⟩:Scenario)).getD default))&&(d.2==0))&&((zb n d.1 [[105,110,32,116,104,101,32,115,116,97,116,101,32,119,105,116,104,32,48,32,101,118,101,114,121,119,104,101,114,101],[114,101,112,108,105,99,97,32,48,32,101,120,101,99,117,116,101,115,32,116,119,111,40,41],[114,101,112,108,105,99,97,32,49,32,101,120,101,99,117,116,101,115,32,116,119,111,40,41],[98,101,104,105,110,100,32,98,111,116,104,32,99,58,32,99,40,41,32,60,61,32,51,32,100,111,101,115,32,110,111,116,32,104,111,108,100,58,32,52]]).getD default))&&((ze n a (⟨(⟨0,0,(⟨false,1⟩:Target)⟩:Question),[0]⟩:Scenario) ([]:List Int)).getD default))||(ze n a (⟨(⟨0,0,(⟨false,1⟩:Target)⟩:Question),[2]⟩:Scenario) ([]:List Int)).isSome) <|
 grd (!((((((((b.2==0)&&(decide (b.1=[97,99,116,105,111,110,115,32,48,32,48,10,116,97,114,103,101,116,32,99,111,110,115,116,114,97,105,110,116,32,49,10,115,116,97,116,101,32,48,10])))&&(c.2==0))&&((zbf n c.1 (⟨(⟨0,0,(⟨false,1⟩:Target)⟩:Question),[0]⟩:Scenario)).getD default))&&(d.2==0))&&((zb n d.1 [[105,110,32,116,104,101,32,115,116,97,116,101,32,119,105,116,104,32,48,32,101,118,101,114,121,119,104,101,114,101],[114,101,112,108,105,99,97,32,48,32,101,120,101,99,117,116,101,115,32,116,119,111,40,41],[114,101,112,108,105,99,97,32,49,32,101,120,101,99,117,116,101,115,32,116,119,111,40,41],[98,101,104,105,110,100,32,98,111,116,104,32,99,58,32,99,40,41,32,60,61,32,51,32,100,111,101,115,32,110,111,116,32,104,111,108,100,58,32,52]]).getD default))&&((ze n a (⟨(⟨0,0,(⟨false,1⟩:Target)⟩:Question),[0]⟩:Scenario) ([]:List Int)).getD default))&&(!((ze n a (⟨(⟨0,0,(⟨false,1⟩:Target)⟩:Question),[2]⟩:Scenario) ([]:List Int)).getD default)))||(zS n a (⟨(⟨0,0,(⟨false,1⟩:Target)⟩:Question),[0]⟩:Scenario)).isSome) <|
 grd (!((((((((b.2==0)&&(decide (b.1=[97,99,116,105,111,110,115,32,48,32,48,10,116,97,114,103,101,116,32,99,111,110,115,116,114,97,105,110,116,32,49,10,115,116,97,116,101,32,48,10])))&&(c.2==0))&&((zbf n c.1 (⟨(⟨0,0,(⟨false,1⟩:Target)⟩:Question),[0]⟩:Scenario)).getD default))&&(d.2==0))&&((zb n d.1 [[105,110,32,116,104,101,32,115,116,97,116,101,32,119,105,116,104,32,48,32,101,118,101,114,121,119,104,101,114,101],[114,101,112,108,105,99,97,32,48,32,101,120,101,99,117,116,101,115,32,116,119,111,40,41],[114,101,112,108,105,99,97,32,49,32,101,120,101,99,117,116,101,115,32,116,119,111,40,41],[98,101,104,105,110,100,32,98,111,116,104,32,99,58,32,99,40,41,32,60,61,32,51,32,100,111,101,115,32,110,111,116,32,104,111,108,100,58,32,52]]).getD default))&&((ze n a (⟨(⟨0,0,(⟨false,1⟩:Target)⟩:Question),[0]⟩:Scenario) ([]:List Int)).getD default))&&(!((ze n a (⟨(⟨0,0,(⟨false,1⟩:Target)⟩:Question),[2]⟩:Scenario) ([]:List Int)).getD default)))||(zj n ((zS n a (⟨(⟨0,0,(⟨false,1⟩:Target)⟩:Question),[0]⟩:Scenario)).getD default) [4]).isSome) <|
 grd (!(((((((((b.2==0)&&(decide (b.1=[97,99,116,105,111,110,115,32,48,32,48,10,116,97,114,103,101,116,32,99,111,110,115,116,114,97,105,110,116,32,49,10,115,116,97,116,101,32,48,10])))&&(c.2==0))&&((zbf n c.1 (⟨(⟨0,0,(⟨false,1⟩:Target)⟩:Question),[0]⟩:Scenario)).getD default))&&(d.2==0))&&((zb n d.1 [[105,110,32,116,104,101,32,115,116,97,116,101,32,119,105,116,104,32,48,32,101,118,101,114,121,119,104,101,114,101],[114,101,112,108,105,99,97,32,48,32,101,120,101,99,117,116,101,115,32,116,119,111,40,41],[114,101,112,108,105,99,97,32,49,32,101,120,101,99,117,116,101,115,32,116,119,111,40,41],[98,101,104,105,110,100,32,98,111,116,104,32,99,58,32,99,40,41,32,60,61,32,51,32,100,111,101,115,32,110,111,116,32,104,111,108,100,58,32,52]]).getD default))&&((ze n a (⟨(⟨0,0,(⟨false,1⟩:Target)⟩:Question),[0]⟩:Scenario) ([]:List Int)).getD default))&&(!((ze n a (⟨(⟨0,0,(⟨false,1⟩:Target)⟩:Question),[2]⟩:Scenario) ([]:List Int)).getD default)))&&((zj n ((zS n a (⟨(⟨0,0,(⟨false,1⟩:Target)⟩:Question),[0]⟩:Scenario)).getD default) [4]).getD default))||(za3 n a (⟨(⟨0,0,(⟨false,1⟩:Target)⟩:Question),[0]⟩:Scenario)).isSome) <|
 grd (!(((((((((b.2==0)&&(decide (b.1=[97,99,116,105,111,110,115,32,48,32,48,10,116,97,114,103,101,116,32,99,111,110,115,116,114,97,105,110,116,32,49,10,115,116,97,116,101,32,48,10])))&&(c.2==0))&&((zbf n c.1 (⟨(⟨0,0,(⟨false,1⟩:Target)⟩:Question),[0]⟩:Scenario)).getD default))&&(d.2==0))&&((zb n d.1 [[105,110,32,116,104,101,32,115,116,97,116,101,32,119,105,116,104,32,48,32,101,118,101,114,121,119,104,101,114,101],[114,101,112,108,105,99,97,32,48,32,101,120,101,99,117,116,101,115,32,116,119,111,40,41],[114,101,112,108,105,99,97,32,49,32,101,120,101,99,117,116,101,115,32,116,119,111,40,41],[98,101,104,105,110,100,32,98,111,116,104,32,99,58,32,99,40,41,32,60,61,32,51,32,100,111,101,115,32,110,111,116,32,104,111,108,100,58,32,52]]).getD default))&&((ze n a (⟨(⟨0,0,(⟨false,1⟩:Target)⟩:Question),[0]⟩:Scenario) ([]:List Int)).getD default))&&(!((ze n a (⟨(⟨0,0,(⟨false,1⟩:Target)⟩:Question),[2]⟩:Scenario) ([]:List Int)).getD default)))&&((zj n ((zS n a (⟨(⟨0,0,(⟨false,1⟩:Target)⟩:Question),[0]⟩:Scenario)).getD default) [4]).getD default))||(zj n ((za3 n a (⟨(⟨0,0,(⟨false,1⟩:Target)⟩:Question),[0]⟩:Scenario)).getD default) [1]).isSome) <|
 grd (!((((((((((b.2==0)&&(decide (b.1=[97,99,116,105,111,110,115,32,48,32,48,10,116,97,114,103,101,116,32,99,111,110,115,116,114,97,105,110,116,32,49,10,115,116,97,116,101,32,48,10])))&&(c.2==0))&&((zbf n c.1 (⟨(⟨0,0,(⟨false,1⟩:Target)⟩:Question),[0]⟩:Scenario)).getD default))&&(d.2==0))&&((zb n d.1 [[105,110,32,116,104,101,32,115,116,97,116,101,32,119,105,116,104,32,48,32,101,118,101,114,121,119,104,101,114,101],[114,101,112,108,105,99,97,32,48,32,101,120,101,99,117,116,101,115,32,116,119,111,40,41],[114,101,112,108,105,99,97,32,49,32,101,120,101,99,117,116,101,115,32,116,119,111,40,41],[98,101,104,105,110,100,32,98,111,116,104,32,99,58,32,99,40,41,32,60,61,32,51,32,100,111,101,115,32,110,111,116,32,104,111,108,100,58,32,52]]).getD default))&&((ze n a (⟨(⟨0,0,(⟨false,1⟩:Target)⟩:Question),[0]⟩:Scenario) ([]:List Int)).getD default))&&(!((ze n a (⟨(⟨0,0,(⟨false,1⟩:Target)⟩:Question),[2]⟩:Scenario) ([]:List Int)).getD default)))&&((zj n ((zS n a (⟨(⟨0,0,(⟨false,1⟩:Target)⟩:Question),[0]⟩:Scenario)).getD default) [4]).getD default))&&((zj n ((za3 n a (⟨(⟨0,0,(⟨false,1⟩:Target)⟩:Question),[0]⟩:Scenario)).getD default) [1]).getD default))||(idx a.constraints 0).isSome) <|
 grd (!((((((((((b.2==0)&&(decide (b.1=[97,99,116,105,111,110,115,32,48,32,48,10,116,97,114,103,101,116,32,99,111,110,115,116,114,97,105,110,116,32,49,10,115,116,97,116,101,32,48,10])))&&(c.2==0))&&((zbf n c.1 (⟨(⟨0,0,(⟨false,1⟩:Target)⟩:Question),[0]⟩:Scenario)).getD default))&&(d.2==0))&&((zb n d.1 [[105,110,32,116,104,101,32,115,116,97,116,101,32,119,105,116,104,32,48,32,101,118,101,114,121,119,104,101,114,101],[114,101,112,108,105,99,97,32,48,32,101,120,101,99,117,116,101,115,32,116,119,111,40,41],[114,101,112,108,105,99,97,32,49,32,101,120,101,99,117,116,101,115,32,116,119,111,40,41],[98,101,104,105,110,100,32,98,111,116,104,32,99,58,32,99,40,41,32,60,61,32,51,32,100,111,101,115,32,110,111,116,32,104,111,108,100,58,32,52]]).getD default))&&((ze n a (⟨(⟨0,0,(⟨false,1⟩:Target)⟩:Question),[0]⟩:Scenario) ([]:List Int)).getD default))&&(!((ze n a (⟨(⟨0,0,(⟨false,1⟩:Target)⟩:Question),[2]⟩:Scenario) ([]:List Int)).getD default)))&&((zj n ((zS n a (⟨(⟨0,0,(⟨false,1⟩:Target)⟩:Question),[0]⟩:Scenario)).getD default) [4]).getD default))&&((zj n ((za3 n a (⟨(⟨0,0,(⟨false,1⟩:Target)⟩:Question),[0]⟩:Scenario)).getD default) [1]).getD default))||(zc2 n a (((idx a.constraints 0).getD default).row)).isSome) <|
 grd (!(((((((((((b.2==0)&&(decide (b.1=[97,99,116,105,111,110,115,32,48,32,48,10,116,97,114,103,101,116,32,99,111,110,115,116,114,97,105,110,116,32,49,10,115,116,97,116,101,32,48,10])))&&(c.2==0))&&((zbf n c.1 (⟨(⟨0,0,(⟨false,1⟩:Target)⟩:Question),[0]⟩:Scenario)).getD default))&&(d.2==0))&&((zb n d.1 [[105,110,32,116,104,101,32,115,116,97,116,101,32,119,105,116,104,32,48,32,101,118,101,114,121,119,104,101,114,101],[114,101,112,108,105,99,97,32,48,32,101,120,101,99,117,116,101,115,32,116,119,111,40,41],[114,101,112,108,105,99,97,32,49,32,101,120,101,99,117,116,101,115,32,116,119,111,40,41],[98,101,104,105,110,100,32,98,111,116,104,32,99,58,32,99,40,41,32,60,61,32,51,32,100,111,101,115,32,110,111,116,32,104,111,108,100,58,32,52]]).getD default))&&((ze n a (⟨(⟨0,0,(⟨false,1⟩:Target)⟩:Question),[0]⟩:Scenario) ([]:List Int)).getD default))&&(!((ze n a (⟨(⟨0,0,(⟨false,1⟩:Target)⟩:Question),[2]⟩:Scenario) ([]:List Int)).getD default)))&&((zj n ((zS n a (⟨(⟨0,0,(⟨false,1⟩:Target)⟩:Question),[0]⟩:Scenario)).getD default) [4]).getD default))&&((zj n ((za3 n a (⟨(⟨0,0,(⟨false,1⟩:Target)⟩:Question),[0]⟩:Scenario)).getD default) [1]).getD default))&&(decide (((zc2 n a (((idx a.constraints 0).getD default).row)).getD default)=[45,99,40,41,32,60,61,32,48])))||(zdi n a 0).isSome) <|
 grd (!((((((((((((b.2==0)&&(decide (b.1=[97,99,116,105,111,110,115,32,48,32,48,10,116,97,114,103,101,116,32,99,111,110,115,116,114,97,105,110,116,32,49,10,115,116,97,116,101,32,48,10])))&&(c.2==0))&&((zbf n c.1 (⟨(⟨0,0,(⟨false,1⟩:Target)⟩:Question),[0]⟩:Scenario)).getD default))&&(d.2==0))&&((zb n d.1 [[105,110,32,116,104,101,32,115,116,97,116,101,32,119,105,116,104,32,48,32,101,118,101,114,121,119,104,101,114,101],[114,101,112,108,105,99,97,32,48,32,101,120,101,99,117,116,101,115,32,116,119,111,40,41],[114,101,112,108,105,99,97,32,49,32,101,120,101,99,117,116,101,115,32,116,119,111,40,41],[98,101,104,105,110,100,32,98,111,116,104,32,99,58,32,99,40,41,32,60,61,32,51,32,100,111,101,115,32,110,111,116,32,104,111,108,100,58,32,52]]).getD default))&&((ze n a (⟨(⟨0,0,(⟨false,1⟩:Target)⟩:Question),[0]⟩:Scenario) ([]:List Int)).getD default))&&(!((ze n a (⟨(⟨0,0,(⟨false,1⟩:Target)⟩:Question),[2]⟩:Scenario) ([]:List Int)).getD default)))&&((zj n ((zS n a (⟨(⟨0,0,(⟨false,1⟩:Target)⟩:Question),[0]⟩:Scenario)).getD default) [4]).getD default))&&((zj n ((za3 n a (⟨(⟨0,0,(⟨false,1⟩:Target)⟩:Question),[0]⟩:Scenario)).getD default) [1]).getD default))&&(decide (((zc2 n a (((idx a.constraints 0).getD default).row)).getD default)=[45,99,40,41,32,60,61,32,48])))&&(decide (((zdi n a 0).getD default)=[99,40,41])))||(zdh n a 0).isSome) <|
 some (((((((((((((b.2==0)&&(decide (b.1=[97,99,116,105,111,110,115,32,48,32,48,10,116,97,114,103,101,116,32,99,111,110,115,116,114,97,105,110,116,32,49,10,115,116,97,116,101,32,48,10])))&&(c.2==0))&&((zbf n c.1 (⟨(⟨0,0,(⟨false,1⟩:Target)⟩:Question),[0]⟩:Scenario)).getD default))&&(d.2==0))&&((zb n d.1 [[105,110,32,116,104,101,32,115,116,97,116,101,32,119,105,116,104,32,48,32,101,118,101,114,121,119,104,101,114,101],[114,101,112,108,105,99,97,32,48,32,101,120,101,99,117,116,101,115,32,116,119,111,40,41],[114,101,112,108,105,99,97,32,49,32,101,120,101,99,117,116,101,115,32,116,119,111,40,41],[98,101,104,105,110,100,32,98,111,116,104,32,99,58,32,99,40,41,32,60,61,32,51,32,100,111,101,115,32,110,111,116,32,104,111,108,100,58,32,52]]).getD default))&&((ze n a (⟨(⟨0,0,(⟨false,1⟩:Target)⟩:Question),[0]⟩:Scenario) ([]:List Int)).getD default))&&(!((ze n a (⟨(⟨0,0,(⟨false,1⟩:Target)⟩:Question),[2]⟩:Scenario) ([]:List Int)).getD default)))&&((zj n ((zS n a (⟨(⟨0,0,(⟨false,1⟩:Target)⟩:Question),[0]⟩:Scenario)).getD default) [4]).getD default))&&((zj n ((za3 n a (⟨(⟨0,0,(⟨false,1⟩:Target)⟩:Question),[0]⟩:Scenario)).getD default) [1]).getD default))&&(decide (((zc2 n a (((idx a.constraints 0).getD default).row)).getD default)=[45,99,40,41,32,60,61,32,48])))&&(decide (((zdi n a 0).getD default)=[99,40,41])))&&(decide (((zdh n a 0).getD default)=[116,119,111,40,41])))
def zcu.l1 (n:Nat) (t0:List Int) (t1:List Table) (c:Int→Option Bool) (a:Int):Option Bool:=
 if (decide (a<(t1.length:Int))) then
 (idx t1 a).bind λb=>
 grd ((decide (40<(b.name.length:Int)))||(idx t1 a).isSome) <|
 if ((decide (40<(b.name.length:Int)))||(decide (12<((((idx t1 a).getD default).columns).length:Int)))) then
 some false
 else
 c (add64 a 1)
 else
 some ((decide ((t0.length:Int)≤12))&&(decide ((t1.length:Int)≤20)))
def zcu (n:Nat) (t0:List Int) (t1:List Table):Option Bool:=
 loopF (zcu.l1 n t0 t1) n 0
def zq.l5 (n:Nat) (f:Int) (c:Int→Option Bool) (b:Action) (d:Int→Option Bool) (a:Int):Option Bool:=
 if (decide (a<(b.effect.hold.length:Int))) then
 (idx b.effect.hold a).bind λe=>
 if (decide (20<(e.terms.length:Int))) then
 some false
 else
 d (add64 a 1)
 else
 c (add64 f 1)
def zq.l4 (n:Nat) (t0:Model) (c:Int→Option Bool) (b:Int):Option Bool:=
 if (decide (b<(t0.actions.length:Int))) then
 (idx t0.actions b).bind λa=>
 (idx t0.actions b).bind λd=>
 if ((((decide (6<(d.arguments.length:Int)))||(decide (20<(a.effect.delta.length:Int))))||(decide (10<(a.effect.hold.length:Int))))||(decide (40<(a.effect.updates.length:Int)))) then
 some false
 else
 loopF (zq.l5 n b c a) n 0
 else
 some true
def zq.l3 (n:Nat) (t0:Model) (c:Int→Option Bool) (a:Int):Option Bool:=
 if (decide (a<(t0.operations.length:Int))) then
 (idx t0.operations a).bind λb=>
 grd ((decide (40<(b.name.length:Int)))||(idx t0.operations a).isSome) <|
 if ((decide (40<(b.name.length:Int)))||(decide (6<((((idx t0.operations a).getD default).sorts).length:Int)))) then
 some false
 else
 c (add64 a 1)
 else
 loopF (zq.l4 n t0) n 0
def zq.l2 (n:Nat) (t0:Model) (b:Int→Option Bool) (a:Int):Option Bool:=
 if (decide (a<(t0.constraints.length:Int))) then
 (idx t0.constraints a).bind λc=>
 if (decide (20<(c.row.terms.length:Int))) then
 some false
 else
 b (add64 a 1)
 else
 loopF (zq.l3 n t0) n 0
def zq.l1 (n:Nat) (t0:Model) (b:Int→Option Bool) (a:Int):Option Bool:=
 if (decide (a<(t0.families.length:Int))) then
 (idx t0.families a).bind λc=>
 if (decide (40<(c.length:Int))) then
 some false
 else
 b (add64 a 1)
 else
 loopF (zq.l2 n t0) n 0
def zq (n:Nat) (t0:Model):Option Bool:=
 grd ((((((((decide (8<(t0.sorts.length:Int)))||(decide (6<(t0.tables.length:Int))))||(decide (20<(t0.families.length:Int))))||(decide (60<(t0.constraints.length:Int))))||(decide (8<(t0.operations.length:Int))))||(decide (30<(t0.actions.length:Int))))||(decide (12<(t0.hides.length:Int))))||(zcu n t0.sorts t0.tables).isSome) <|
 if ((((((((decide (8<(t0.sorts.length:Int)))||(decide (6<(t0.tables.length:Int))))||(decide (20<(t0.families.length:Int))))||(decide (60<(t0.constraints.length:Int))))||(decide (8<(t0.operations.length:Int))))||(decide (30<(t0.actions.length:Int))))||(decide (12<(t0.hides.length:Int))))||(!((zcu n t0.sorts t0.tables).getD default))) then
 some false
 else
 loopF (zq.l1 n t0) n 0
def za1.l1 (n:Nat) (t0:List Int) (c:Int→Option Bool) (a:Int):Option Bool:=
 if (decide (a<(t0.length:Int))) then
 (idx t0 a).bind λb=>
 grd ((decide (b<1))||(idx t0 a).isSome) <|
 if ((decide (b<1))||(decide (6<((idx t0 a).getD default)))) then
 some false
 else
 c (add64 a 1)
 else
 some true
def za1 (n:Nat) (t0:List Int):Option Bool:=
 loopF (za1.l1 n t0) n 0
def z9.l1 (n:Nat) (t0:List Int) (t1:List Int) (b:(Int×Int)→Option Int) (s:Int×Int):Option Int:=
 if (decide (s.2<(t1.length:Int))) then
 (idx t1 s.2).bind λa=>
 grd ((decide (a<0))||(idx t1 s.2).isSome) <|
 if ((decide (a<0))||(decide ((t0.length:Int)≤((idx t1 s.2).getD default)))) then
 some 0
 else
 (idx t1 s.2).bind λc=>
 (idx t0 c).bind λd=>
 b (mul64 s.1 d,add64 s.2 1)
 else
 some s.1
def z9 (n:Nat) (t0:List Int) (t1:List Int):Option Int:=
 grd ((decide (3<(t1.length:Int)))||(za1 n t0).isSome) <|
 if ((decide (3<(t1.length:Int)))||(!((za1 n t0).getD default))) then
 some 0
 else
 loopF (z9.l1 n t0 t1) n (1,0)
def zaI (n:Nat) (t0:Int):Option Bool:=
 some ((((t0==9)||(t0==10))||(t0==13))||(t0==32))
def za5.l2 (n:Nat) (t0:List UInt8) (b:Int→Option Int) (c:Int→Option Int) (a:Int):Option Int:=
 grd (!(decide (a<(t0.length:Int)))||(sidx t0 a).isSome) <|
 if ((decide (a<(t0.length:Int)))&&(((sidx t0 a).getD default) != 10)) then
 c (add64 a 1)
 else
 b a
def za5.l1 (n:Nat) (t0:List UInt8) (b:Int→Option Int) (a:Int):Option Int:=
 grd (!(decide (a<(t0.length:Int)))||(sidx t0 a).isSome) <|
 grd (!(decide (a<(t0.length:Int)))||(zaI n ((sidx t0 a).getD default)).isSome) <|
 grd (!(decide (a<(t0.length:Int)))||(((zaI n ((sidx t0 a).getD default)).getD default)||(sidx t0 a).isSome)) <|
 if ((decide (a<(t0.length:Int)))&&(((zaI n ((sidx t0 a).getD default)).getD default)||(((sidx t0 a).getD default)==35))) then
 (sidx t0 a).bind λc=>
 if (c==35) then
 loopF (za5.l2 n t0 b) n a
 else
 b (add64 a 1)
 else
 some a
def za5 (n:Nat) (t0:List UInt8) (t1:Int):Option Int:=
 loopF (za5.l1 n t0) n t1
def zaz (n:Nat) (t0:Int):Option Bool:=
 some ((decide (97≤t0))&&(decide (t0≤122)))
def zaQ (n:Nat) (t0:Int):Option Bool:=
 some ((decide (48≤t0))&&(decide (t0≤57)))
def ze2 (n:Nat):Option (List (List UInt8)):=
 some [[115,111,114,116],[114,101,108,97,116,105,111,110],[99,111,117,110,116,101,114],[115,101,116],[114,101,103,105,115,116,101,114],[105,110,118,97,114,105,97,110,116],[111,112,101,114,97,116,105,111,110],[107,101,121],[114,101,102,101,114,101,110,99,101],[116,111],[99,111,117,110,116],[97,99,121,99,108,105,99],[97,108,108],[115,117,109],[105,110],[97,100,100,119,105,110,115],[114,101,109,111,118,101,119,105,110,115],[108,97,115,116],[109,117,108,116,105],[104,105,100,101],[111,114,100,101,114,101,100],[114,101,113,117,105,114,101],[104,111,108,100],[105,110,115,101,114,116],[100,101,108,101,116,101],[97,100,100],[102,114,111,109],[112,117,116],[100,114,111,112],[97,115,115,105,103,110],[102,111,114],[119,104,101,114,101],[97,110,100],[111,114],[110,111,116]]
def zci.l1 (n:Nat) (t0:List (List UInt8)) (t1:List UInt8) (b:Int→Option Bool) (a:Int):Option Bool:=
 if (decide (a<(t0.length:Int))) then
 (idx t0 a).bind λc=>
 if (decide (c=t1)) then
 some true
 else
 b (add64 a 1)
 else
 some false
def zci (n:Nat) (t0:List (List UInt8)) (t1:List UInt8):Option Bool:=
 loopF (zci.l1 n t0 t1) n 0
def zfD (n:Nat):Option (List (List UInt8)):=
 some [[61,61],[33,61],[60,61],[62,61],[46,46],[60],[62],[61],[43],[45],[42],[40],[41],[123],[125],[44],[58],[59]]
def za7.l1 (n:Nat) (t0:List UInt8) (t1:Int) (c:List (List UInt8)) (d:Int→Option Int) (b:Int):Option Int:=
 if (decide (b<(c.length:Int))) then
 (idx c b).bind λa=>
 grd (!(decide (add64 t1 (a.length:Int)≤(t0.length:Int)))||(cut t0 t1 (add64 t1 (a.length:Int))).isSome) <|
 grd (!(decide (add64 t1 (a.length:Int)≤(t0.length:Int)))||(idx c b).isSome) <|
 if ((decide (add64 t1 (a.length:Int)≤(t0.length:Int)))&&(decide (((cut t0 t1 (add64 t1 (a.length:Int))).getD default)=((idx c b).getD default)))) then
 some (a.length:Int)
 else
 d (add64 b 1)
 else
 some 0
def za7 (n:Nat) (t0:List UInt8) (t1:Int):Option Int:=
 (zfD n ).bind λa=>
 loopF (za7.l1 n t0 t1 a) n 0
def zan.l3 (n:Nat) (t0:List UInt8) (b:Int→Option (Int×Int)) (a:Int):Option (Int×Int):=
 grd (!(decide (a<(t0.length:Int)))||(sidx t0 a).isSome) <|
 grd (!(decide (a<(t0.length:Int)))||(zaI n ((sidx t0 a).getD default)).isSome) <|
 grd (!((decide (a<(t0.length:Int)))&&(!((zaI n ((sidx t0 a).getD default)).getD default)))||(sidx t0 a).isSome) <|
 grd (!(((decide (a<(t0.length:Int)))&&(!((zaI n ((sidx t0 a).getD default)).getD default)))&&(((sidx t0 a).getD default) != 35))||(sidx t0 a).isSome) <|
 grd (!(((decide (a<(t0.length:Int)))&&(!((zaI n ((sidx t0 a).getD default)).getD default)))&&(((sidx t0 a).getD default) != 35))||(zaz n ((sidx t0 a).getD default)).isSome) <|
 grd (!((((decide (a<(t0.length:Int)))&&(!((zaI n ((sidx t0 a).getD default)).getD default)))&&(((sidx t0 a).getD default) != 35))&&(!((zaz n ((sidx t0 a).getD default)).getD default)))||(sidx t0 a).isSome) <|
 grd (!((((decide (a<(t0.length:Int)))&&(!((zaI n ((sidx t0 a).getD default)).getD default)))&&(((sidx t0 a).getD default) != 35))&&(!((zaz n ((sidx t0 a).getD default)).getD default)))||(zaQ n ((sidx t0 a).getD default)).isSome) <|
 grd (!(((((decide (a<(t0.length:Int)))&&(!((zaI n ((sidx t0 a).getD default)).getD default)))&&(((sidx t0 a).getD default) != 35))&&(!((zaz n ((sidx t0 a).getD default)).getD default)))&&(!((zaQ n ((sidx t0 a).getD default)).getD default)))||(za7 n t0 a).isSome) <|
 if ((((((decide (a<(t0.length:Int)))&&(!((zaI n ((sidx t0 a).getD default)).getD default)))&&(((sidx t0 a).getD default) != 35))&&(!((zaz n ((sidx t0 a).getD default)).getD default)))&&(!((zaQ n ((sidx t0 a).getD default)).getD default)))&&(((za7 n t0 a).getD default)==0)) then
 b (add64 a 1)
 else
 some (5,a)
def zan.l2 (n:Nat) (t0:List UInt8) (b:Int→Option (Int×Int)) (a:Int):Option (Int×Int):=
 grd (!(decide (a<(t0.length:Int)))||(sidx t0 a).isSome) <|
 grd (!(decide (a<(t0.length:Int)))||(zaQ n ((sidx t0 a).getD default)).isSome) <|
 if ((decide (a<(t0.length:Int)))&&((zaQ n ((sidx t0 a).getD default)).getD default)) then
 b (add64 a 1)
 else
 some (3,a)
def zan.l1 (n:Nat) (t0:List UInt8) (t1:Int) (b:Int→Option (Int×Int)) (a:Int):Option (Int×Int):=
 grd (!(decide (a<(t0.length:Int)))||(sidx t0 a).isSome) <|
 grd (!(decide (a<(t0.length:Int)))||(zaz n ((sidx t0 a).getD default)).isSome) <|
 grd (!(decide (a<(t0.length:Int)))||(((zaz n ((sidx t0 a).getD default)).getD default)||(sidx t0 a).isSome)) <|
 grd (!(decide (a<(t0.length:Int)))||(((zaz n ((sidx t0 a).getD default)).getD default)||(zaQ n ((sidx t0 a).getD default)).isSome)) <|
 grd (!(decide (a<(t0.length:Int)))||((((zaz n ((sidx t0 a).getD default)).getD default)||((zaQ n ((sidx t0 a).getD default)).getD default))||(sidx t0 a).isSome)) <|
 if ((decide (a<(t0.length:Int)))&&((((zaz n ((sidx t0 a).getD default)).getD default)||((zaQ n ((sidx t0 a).getD default)).getD default))||(((sidx t0 a).getD default)==95))) then
 b (add64 a 1)
 else
 (ze2 n ).bind λc=>
 (cut t0 t1 a).bind λd=>
 (zci n c d).bind λe=>
 if e then
 some (2,a)
 else
 some (1,a)
def zan (n:Nat) (t0:List UInt8) (t1:Int):Option (Int×Int):=
 (sidx t0 t1).bind λb=>
 (zaz n b).bind λc=>
 if c then
 loopF (zan.l1 n t0 t1) n t1
 else
 (sidx t0 t1).bind λd=>
 (zaQ n d).bind λe=>
 if e then
 loopF (zan.l2 n t0) n t1
 else
 (za7 n t0 t1).bind λa=>
 if (decide (0<a)) then
 some (4,add64 t1 a)
 else
 loopF (zan.l3 n t0) n t1
def zcF.l1 (n:Nat) (t0:List UInt8) (c:((List Token)×Int)→Option ((List Token)×Int)) (s:(List Token)×Int):Option ((List Token)×Int):=
 (za5 n t0 s.2).bind λd=>
 if (decide (d<(t0.length:Int))) then
 (za5 n t0 s.2).bind λb=>
 (zan n t0 b).bind λa=>
 (app 32 s.1 [(⟨a.1,s.2,b,a.2⟩:Token)]).bind λe=>
 c (e,a.2)
 else
 (app 32 s.1 [(⟨0,s.2,(t0.length:Int),(t0.length:Int)⟩:Token)]).bind λf=>
 some (f,0)
def zcF (n:Nat) (t0:List UInt8):Option ((List Token)×Int):=
 if (decide (4096<(t0.length:Int))) then
 some (([]:List Token),8)
 else
 loopF (zcF.l1 n t0) n (([]:List Token),0)
def zgT (n:Nat) (t0:List UInt8):Option Int:=
 (zcF n t0).bind λa=>
 grd (((a.2 != 0)||((a.1.length:Int) != 2))||(idx a.1 0).isSome) <|
 grd ((((a.2 != 0)||((a.1.length:Int) != 2))||((((idx a.1 0).getD default).at_) != 0))||(idx a.1 0).isSome) <|
 if ((((a.2 != 0)||((a.1.length:Int) != 2))||((((idx a.1 0).getD default).at_) != 0))||((((idx a.1 0).getD default).end_) != (t0.length:Int))) then
 some 0
 else
 (idx a.1 0).bind λb=>
 some b.kind
def zfh (n:Nat) (t0:List UInt8):Option Bool:=
 (zgT n t0).bind λa=>
 some ((a==1)&&(decide ((t0.length:Int)≤16)))
def zbL (n:Nat) (t0:Int):Option Bool:=
 some ((t0==0)||(t0==1))
def zaw.l2 (n:Nat) (t0:List Int) (t1:List Table) (c:Int) (d:Int) (k:Int) (f:(Int×Int)→Option Bool) (a:Table) (g:Int→Option Bool) (e:Int):Option Bool:=
 if (decide (e<k)) then
 (idx t1 e).bind λi=>
 if (decide (i.name=a.name)) then
 some false
 else
 g (add64 e 1)
 else
 (z9 n t0 a.columns).bind λb=>
 (zfh n a.name).bind λj=>
 if ((((!j)||(decide (a.kind<0)))||(decide (5<a.kind)))||(b==0)) then
 some false
 else
 if (((decide (a.range.hi<a.range.lo))||(decide (a.range.lo<(-9999))))||(decide (9999<a.range.hi))) then
 some false
 else
 if ((((a.kind==0)||(a.kind==2))||(a.kind==3))&&((a.range.lo != 0)||(a.range.hi != 1))) then
 some false
 else
 (zbL n a.kind).bind λh=>
 if h then
 if (a.first != c) then
 some false
 else
 f (add64 c b,d)
 else
 if (a.first != d) then
 some false
 else
 f (c,add64 d b)
def zaw.l1 (n:Nat) (t0:List Int) (t1:List Table) (c:(Int×Int×Int)→Option Bool) (s:Int×Int×Int):Option Bool:=
 if (decide (s.2.2<(t1.length:Int))) then
 jn (λ(a:Int×Int)=>
 c (a.1,a.2,add64 s.2.2 1)) λb=>
 (idx t1 s.2.2).bind λd=>
 loopF (zaw.l2 n t0 t1 s.1 s.2.1 s.2.2 b d) n 0
 else
 some ((decide (s.1≤128))&&(decide (s.2.1≤64)))
def zaw (n:Nat) (t0:List Int) (t1:List Table):Option Bool:=
 grd ((decide (4<(t0.length:Int)))||(za1 n t0).isSome) <|
 if (((decide (4<(t0.length:Int)))||(!((za1 n t0).getD default)))||(decide (12<(t1.length:Int)))) then
 some false
 else
 loopF (zaw.l1 n t0 t1) n (0,0,0)
def zaA.l2 (n:Nat) (t0:List Int) (t1:List Table) (t2:Bool) (a:Int) (c:((List Range)×Int)→Option (List Range)) (d:((List Range)×Int)→Option (List Range)) (s:(List Range)×Int):Option (List Range):=
 (idx t1 a).bind λe=>
 (zbL n e.kind).bind λb=>
 grd (!(b==t2)||(idx t1 a).isSome) <|
 grd (!(b==t2)||(z9 n t0 (((idx t1 a).getD default).columns)).isSome) <|
 if ((b==t2)&&(decide (s.2<((z9 n t0 (((idx t1 a).getD default).columns)).getD default)))) then
 (idx t1 a).bind λf=>
 (app 16 s.1 [f.range]).bind λg=>
 d (g,add64 s.2 1)
 else
 c (s.1,add64 a 1)
def zaA.l1 (n:Nat) (t0:List Int) (t1:List Table) (t2:Bool) (a:((List Range)×Int)→Option (List Range)) (s:(List Range)×Int):Option (List Range):=
 if (decide (s.2<(t1.length:Int))) then
 loopF (zaA.l2 n t0 t1 t2 s.2 a) n (s.1,0)
 else
 some s.1
def zaA (n:Nat) (t0:List Int) (t1:List Table) (t2:Bool):Option (List Range):=
 (zaw n t0 t1).bind λa=>
 if (!a) then
 some ([]:List Range)
 else
 loopF (zaA.l1 n t0 t1 t2) n (([]:List Range),0)
def zb5 (n:Nat) (t0:Model):Option (List Range):=
 (zaA n t0.sorts t0.tables true).bind λa=>
 some a
def zby.l2 (n:Nat) (a:List Range) (d:(Int×Int)→Option Bool) (s:Int×Int):Option Bool:=
 if (decide (s.2<(a.length:Int))) then
 (idx a s.2).bind λb=>
 (idx a s.2).bind λc=>
 if (decide (4096<mul64 s.1 (add64 (sub64 b.hi c.lo) 1))) then
 some false
 else
 d (mul64 s.1 (add64 (sub64 b.hi c.lo) 1),add64 s.2 1)
 else
 some true
def zby.l1 (n:Nat) (t0:Model) (c:Int→Option Bool) (a:Int):Option Bool:=
 if (decide (a<(t0.actions.length:Int))) then
 (idx t0.actions a).bind λd=>
 if (decide (4<(d.effect.hold.length:Int))) then
 some false
 else
 c (add64 a 1)
 else
 (zb5 n t0).bind λb=>
 if (decide (12<(b.length:Int))) then
 some false
 else
 loopF (zby.l2 n b) n (1,0)
def zby (n:Nat) (t0:Model):Option Bool:=
 (zq n t0).bind λa=>
 if (((!a)||(decide (12<(t0.actions.length:Int))))||(decide (40<(t0.constraints.length:Int)))) then
 some false
 else
 loopF (zby.l1 n t0) n 0
def zcD (n:Nat) (t0:Int):Option Bool:=
 some ((decide (t0<(-1099511627776)))||(decide (1099511627776<t0)))
def zdx (n:Nat) (t0:List Int):Option Bool:=
 grd (!(decide ((t0.length:Int)≤150))||(zh n t0 (λq0=>zcD n q0)).isSome) <|
 some ((decide ((t0.length:Int)≤150))&&(!((zh n t0 (λq0=>zcD n q0)).getD default)))
def zal.l1 (n:Nat) (t0:List (List UInt8)) (c:Int→Option Bool) (a:Int):Option Bool:=
 if (decide (a<(t0.length:Int))) then
 (idx t0 a).bind λd=>
 (zfh n d).bind λb=>
 grd ((!b)||(cut t0 0 a).isSome) <|
 grd ((!b)||(idx t0 a).isSome) <|
 grd ((!b)||(zci n ((cut t0 0 a).getD default) ((idx t0 a).getD default)).isSome) <|
 if ((!b)||((zci n ((cut t0 0 a).getD default) ((idx t0 a).getD default)).getD default)) then
 some false
 else
 c (add64 a 1)
 else
 some true
def zal (n:Nat) (t0:List (List UInt8)):Option Bool:=
 loopF (zal.l1 n t0) n 0
def zaB.l1 (n:Nat) (t0:List Term) (t1:List Term) (b:Int→Option Bool) (a:Int):Option Bool:=
 if (decide (a<(t0.length:Int))) then
 (idx t0 a).bind λc=>
 (idx t1 a).bind λd=>
 if (!decide ((c:Term)=d)) then
 some false
 else
 b (add64 a 1)
 else
 some true
def zaB (n:Nat) (t0:List Term) (t1:List Term):Option Bool:=
 if ((t0.length:Int) != (t1.length:Int)) then
 some false
 else
 loopF (zaB.l1 n t0 t1) n 0
def zb9 (n:Nat) (t0:Row) (t1:Row):Option Bool:=
 grd (!(t0.bound==t1.bound)||(zaB n t0.terms t1.terms).isSome) <|
 some ((t0.bound==t1.bound)&&((zaB n t0.terms t1.terms).getD default))
def zac (n:Nat) (t0:Int) (t1:Int):Option Bool:=
 some ((decide (neg64 t1≤t0))&&(decide (t0≤t1)))
def zbY.l1 (n:Nat) (t0:Row) (t1:Int) (c:Int→Option Bool) (b:Int):Option Bool:=
 if (decide (b<(t0.terms.length:Int))) then
 (idx t0.terms b).bind λa=>
 grd (((decide (a.cell<0))||(decide (t1≤a.cell)))||(!(decide (0<b))||(idx t0.terms (sub64 b 1)).isSome)) <|
 grd (((((decide (a.cell<0))||(decide (t1≤a.cell)))||((decide (0<b))&&(decide (a.cell≤((idx t0.terms (sub64 b 1)).getD default).cell))))||(a.factor==0))||(zac n a.factor 1000).isSome) <|
 if (((((decide (a.cell<0))||(decide (t1≤a.cell)))||((decide (0<b))&&(decide (a.cell≤((idx t0.terms (sub64 b 1)).getD default).cell))))||(a.factor==0))||(!((zac n a.factor 1000).getD default))) then
 some false
 else
 c (add64 b 1)
 else
 (zac n t0.bound 1000000000).bind λd=>
 some d
def zbY (n:Nat) (t0:Row) (t1:Int):Option Bool:=
 loopF (zbY.l1 n t0 t1) n 0
def zbo.l1 (n:Nat) (t0:Model) (t1:Constraint) (c:Int→Option Bool) (b:Int):Option Bool:=
 if (decide (b<(t0.tables.length:Int))) then
 (idx t0.tables b).bind λa=>
 grd (!((a.kind==0)&&((a.columns.length:Int)==2))||(idx a.columns 0).isSome) <|
 grd (!((a.kind==0)&&((a.columns.length:Int)==2))||(idx a.columns 1).isSome) <|
 grd (!((((a.kind==0)&&((a.columns.length:Int)==2))&&(((idx a.columns 0).getD default)==((idx a.columns 1).getD default)))&&(a.first==t1.first))||(idx a.columns 0).isSome) <|
 grd (!((((a.kind==0)&&((a.columns.length:Int)==2))&&(((idx a.columns 0).getD default)==((idx a.columns 1).getD default)))&&(a.first==t1.first))||(idx t0.sorts ((idx a.columns 0).getD default)).isSome) <|
 if (((((a.kind==0)&&((a.columns.length:Int)==2))&&(((idx a.columns 0).getD default)==((idx a.columns 1).getD default)))&&(a.first==t1.first))&&(((idx t0.sorts ((idx a.columns 0).getD default)).getD default)==t1.size)) then
 some true
 else
 c (add64 b 1)
 else
 some false
def zbo (n:Nat) (t0:Model) (t1:Constraint):Option Bool:=
 if ((decide (0<(t1.row.terms.length:Int)))||(t1.row.bound != 0)) then
 some false
 else
 loopF (zbo.l1 n t0 t1) n 0
def zL.l2 (n:Nat) (t0:Model) (b:List Range) (d:Int→Option Bool) (c:Int):Option Bool:=
 if (decide (c<(t0.constraints.length:Int))) then
 (idx t0.constraints c).bind λa=>
 if ((decide (a.family<0))||(decide ((t0.families.length:Int)≤a.family))) then
 some false
 else
 grd (!(((a.kind==0)&&(a.first==0))&&(a.size==0))||(zbY n a.row (b.length:Int)).isSome) <|
 grd (!(!((((a.kind==0)&&(a.first==0))&&(a.size==0))&&((zbY n a.row (b.length:Int)).getD default)))||(!((decide (mul64 2 (b.length:Int)≤c))&&(a.kind==1))||(zbo n t0 a).isSome)) <|
 if ((!((((a.kind==0)&&(a.first==0))&&(a.size==0))&&((zbY n a.row (b.length:Int)).getD default)))&&(!(((decide (mul64 2 (b.length:Int)≤c))&&(a.kind==1))&&((zbo n t0 a).getD default)))) then
 some false
 else
 d (add64 c 1)
 else
 some true
def zL.l1 (n:Nat) (t0:Model) (b:List Range) (e:Int→Option Bool) (a:Int):Option Bool:=
 if (decide (a<(b.length:Int))) then
 (idx b a).bind λf=>
 (idx b a).bind λd=>
 (idx t0.constraints (mul64 2 a)).bind λg=>
 (zb9 n g.row (⟨[(⟨a,(-1)⟩:Term)],neg64 f.lo⟩:Row)).bind λc=>
 grd ((!c)||(idx t0.constraints (add64 (mul64 2 a) 1)).isSome) <|
 grd ((!c)||(zb9 n (((idx t0.constraints (add64 (mul64 2 a) 1)).getD default).row) (⟨[(⟨a,1⟩:Term)],d.hi⟩:Row)).isSome) <|
 if ((!c)||(!((zb9 n (((idx t0.constraints (add64 (mul64 2 a) 1)).getD default).row) (⟨[(⟨a,1⟩:Term)],d.hi⟩:Row)).getD default))) then
 some false
 else
 e (add64 a 1)
 else
 loopF (zL.l2 n t0 b) n 0
def zL (n:Nat) (t0:Model):Option Bool:=
 (zb5 n t0).bind λa=>
 if ((decide ((t0.constraints.length:Int)<mul64 2 (a.length:Int)))||(decide (512<(t0.constraints.length:Int)))) then
 some false
 else
 loopF (zL.l1 n t0 a) n 0
def zbH.l1 (n:Nat) (t0:List Int) (t1:List Int) (b:Int→Option Bool) (a:Int):Option Bool:=
 if ((decide (a<(t0.length:Int)))&&(decide (a<(t1.length:Int)))) then
 (idx t0 a).bind λc=>
 (idx t1 a).bind λd=>
 if (c != d) then
 (idx t0 a).bind λe=>
 (idx t1 a).bind λf=>
 some (decide (e<f))
 else
 b (add64 a 1)
 else
 some (decide ((t0.length:Int)<(t1.length:Int)))
def zbH (n:Nat) (t0:List Int) (t1:List Int):Option Bool:=
 loopF (zbH.l1 n t0 t1) n 0
def zde.l1 (n:Nat) (t0:List Int) (t1:List Int) (c:((List Int)×Int×Int)→Option (List Int)) (s:(List Int)×Int×Int):Option (List Int):=
 let a:=s.2.2
 if (decide (0≤a)) then
 (idx t1 a).bind λd=>
 (idx t0 d).bind λe=>
 (rem64 s.2.1 e).bind λf=>
 (idx s.1 a).bind λj=>
 (sto s.1 a f).bind λb=>
 (idx t1 a).bind λg=>
 (idx t0 g).bind λh=>
 (quo64 s.2.1 h).bind λi=>
 c (b,i,sub64 a 1)
 else
 some s.1
def zde (n:Nat) (t0:List Int) (t1:List Int) (t2:Int):Option (List Int):=
 (mkl 8 (t1.length:Int) (0:Int)).bind λa=>
 loopF (zde.l1 n t0 t1) n (a,t2,sub64 (t1.length:Int) 1)
def zb8.l1 (n:Nat) (t0:List Int) (t1:List Table) (t2:Bool) (t3:Int) (d:Int→Option (Int×(List Int)×Bool)) (a:Int):Option (Int×(List Int)×Bool):=
 if (decide (a<(t1.length:Int))) then
 (idx t1 a).bind λb=>
 (idx t1 a).bind λe=>
 (zbL n e.kind).bind λc=>
 grd (!(((c==t2)&&(decide (0≤t3)))&&(decide (0≤sub64 t3 b.first)))||(idx t1 a).isSome) <|
 grd (!(((c==t2)&&(decide (0≤t3)))&&(decide (0≤sub64 t3 b.first)))||(z9 n t0 (((idx t1 a).getD default).columns)).isSome) <|
 if ((((c==t2)&&(decide (0≤t3)))&&(decide (0≤sub64 t3 b.first)))&&(decide (sub64 t3 b.first<((z9 n t0 (((idx t1 a).getD default).columns)).getD default)))) then
 (idx t1 a).bind λf=>
 (zde n t0 f.columns (sub64 t3 b.first)).bind λg=>
 some (a,g,true)
 else
 d (add64 a 1)
 else
 some (0,([]:List Int),false)
def zb8 (n:Nat) (t0:List Int) (t1:List Table) (t2:Bool) (t3:Int):Option (Int×(List Int)×Bool):=
 (zaw n t0 t1).bind λa=>
 if (!a) then
 some (0,([]:List Int),false)
 else
 loopF (zb8.l1 n t0 t1 t2 t3) n 0
def zh7 (n:Nat) (t0:Int):Option Bool:=
 some ((t0==2)||(t0==3))
def zR.l3 (n:Nat) (t0:Model) (t1:Effect) (e:Int→Option Bool) (b:Int):Option Bool:=
 if (decide (b<(t1.updates.length:Int))) then
 (idx t1.updates b).bind λa=>
 (zb8 n t0.sorts t0.tables false a.cell).bind λd=>
 grd ((!d.2.2)||(!(decide (0<b))||(idx t1.updates (sub64 b 1)).isSome)) <|
 if ((!d.2.2)||((decide (0<b))&&(decide (a.cell≤((idx t1.updates (sub64 b 1)).getD default).cell)))) then
 some false
 else
 (idx t0.tables d.1).bind λc=>
 (zh7 n c.kind).bind λf=>
 if (f&&(((a.kind != 0)&&(a.kind != 1))||(a.value != 0))) then
 some false
 else
 (zh7 n c.kind).bind λg=>
 if ((!g)&&(((a.kind != 2)||(decide (a.value<c.range.lo)))||(decide (c.range.hi<a.value)))) then
 some false
 else
 e (add64 b 1)
 else
 some ((decide ((t1.hold.length:Int)≤8))&&(decide ((t1.updates.length:Int)≤32)))
def zR.l2 (n:Nat) (t0:Model) (t1:Effect) (c:List Range) (b:Int→Option Bool) (a:Int):Option Bool:=
 if (decide (a<(t1.hold.length:Int))) then
 (idx t1.hold a).bind λd=>
 (zbY n d (c.length:Int)).bind λe=>
 if (!e) then
 some false
 else
 b (add64 a 1)
 else
 loopF (zR.l3 n t0 t1) n 0
def zR.l1 (n:Nat) (t0:Model) (t1:Effect) (c:List Range) (d:Int→Option Bool) (b:Int):Option Bool:=
 if (decide (b<(t1.delta.length:Int))) then
 (idx t1.delta b).bind λa=>
 grd (((decide (a.cell<0))||(decide ((c.length:Int)≤a.cell)))||(!(decide (0<b))||(idx t1.delta (sub64 b 1)).isSome)) <|
 grd (((((decide (a.cell<0))||(decide ((c.length:Int)≤a.cell)))||((decide (0<b))&&(decide (a.cell≤((idx t1.delta (sub64 b 1)).getD default).cell))))||(a.add==0))||(zac n a.add 1000000000).isSome) <|
 if (((((decide (a.cell<0))||(decide ((c.length:Int)≤a.cell)))||((decide (0<b))&&(decide (a.cell≤((idx t1.delta (sub64 b 1)).getD default).cell))))||(a.add==0))||(!((zac n a.add 1000000000).getD default))) then
 some false
 else
 d (add64 b 1)
 else
 loopF (zR.l2 n t0 t1 c) n 0
def zR (n:Nat) (t0:Model) (t1:Effect):Option Bool:=
 (zb5 n t0).bind λa=>
 loopF (zR.l1 n t0 t1 a) n 0
def zu.l4 (n:Nat) (t0:Model) (e:Int) (g:Int→Option Bool) (a:Action) (h:Int→Option Bool) (b:Int):Option Bool:=
 if (decide (b<(a.arguments.length:Int))) then
 (idx t0.operations a.operation).bind λi=>
 (idx i.sorts b).bind λc=>
 grd (!(decide (c<0))||(idx a.arguments b).isSome) <|
 grd (!(decide (c<0))||(zac n ((idx a.arguments b).getD default) 9999).isSome) <|
 grd (((decide (c<0))&&(!((zac n ((idx a.arguments b).getD default) 9999).getD default)))||(!(decide (0≤c))||(idx a.arguments b).isSome)) <|
 grd (((decide (c<0))&&(!((zac n ((idx a.arguments b).getD default) 9999).getD default)))||(!(decide (0≤c))||((decide (((idx a.arguments b).getD default)<0))||(idx a.arguments b).isSome))) <|
 grd (((decide (c<0))&&(!((zac n ((idx a.arguments b).getD default) 9999).getD default)))||(!(decide (0≤c))||((decide (((idx a.arguments b).getD default)<0))||(idx t0.sorts c).isSome))) <|
 if (((decide (c<0))&&(!((zac n ((idx a.arguments b).getD default) 9999).getD default)))||((decide (0≤c))&&((decide (((idx a.arguments b).getD default)<0))||(decide (((idx t0.sorts c).getD default)≤((idx a.arguments b).getD default)))))) then
 some false
 else
 h (add64 b 1)
 else
 jn (λ(k:Unit)=>
 (zR n t0 a.effect).bind λj=>
 if (!j) then
 some false
 else
 g (add64 e 1)) λf=>
 if (decide (0<e)) then
 (idx t0.actions (sub64 e 1)).bind λd=>
 grd ((decide (a.operation<d.operation))||(!(d.operation==a.operation)||(zbH n d.arguments a.arguments).isSome)) <|
 if ((decide (a.operation<d.operation))||((d.operation==a.operation)&&(!((zbH n d.arguments a.arguments).getD default)))) then
 some false
 else
 f ()
 else
 f ()
def zu.l3 (n:Nat) (t0:Model) (c:Int→Option Bool) (b:Int):Option Bool:=
 if (decide (b<(t0.actions.length:Int))) then
 (idx t0.actions b).bind λa=>
 grd (((decide (a.operation<0))||(decide ((t0.operations.length:Int)≤a.operation)))||(idx t0.operations a.operation).isSome) <|
 if (((decide (a.operation<0))||(decide ((t0.operations.length:Int)≤a.operation)))||((a.arguments.length:Int) != ((((idx t0.operations a.operation).getD default).sorts).length:Int))) then
 some false
 else
 loopF (zu.l4 n t0 b c a) n 0
 else
 some true
def zu.l2 (n:Nat) (t0:Model) (g:Int) (d:((List (List UInt8))×Int)→Option Bool) (a:Operation) (f:List (List UInt8)) (e:Int→Option Bool) (b:Int):Option Bool:=
 if (decide (b<(a.sorts.length:Int))) then
 (idx a.sorts b).bind λc=>
 grd ((decide (c<(-1)))||(idx a.sorts b).isSome) <|
 if ((decide (c<(-1)))||(decide ((t0.sorts.length:Int)≤((idx a.sorts b).getD default)))) then
 some false
 else
 e (add64 b 1)
 else
 if (decide (3<(a.sorts.length:Int))) then
 some false
 else
 d (f,add64 g 1)
def zu.l1 (n:Nat) (t0:Model) (b:((List (List UInt8))×Int)→Option Bool) (s:(List (List UInt8))×Int):Option Bool:=
 if (decide (s.2<(t0.operations.length:Int))) then
 (idx t0.operations s.2).bind λa=>
 (app 16 s.1 [a.name]).bind λc=>
 loopF (zu.l2 n t0 s.2 b a c) n 0
 else
 grd ((decide (8<(t0.operations.length:Int)))||(zal n s.1).isSome) <|
 if (((decide (8<(t0.operations.length:Int)))||(!((zal n s.1).getD default)))||(decide (256<(t0.actions.length:Int)))) then
 some false
 else
 loopF (zu.l3 n t0) n 0
def zu (n:Nat) (t0:Model):Option Bool:=
 loopF (zu.l1 n t0) n (([]:List (List UInt8)),0)
def zao.l1 (n:Nat) (self:Model→Int→Int→Int→Option Bool) (t0:Model) (t1:Int) (t2:Int) (t3:Int) (c:Int→Option Bool) (a:Int):Option Bool:=
 if ((decide (a<(t0.hides.length:Int)))&&(decide (0<t3))) then
 (idx t0.hides a).bind λb=>
 grd (!(b.table==t1)||(idx t0.hides a).isSome) <|
 grd (!(b.table==t1)||(self t0 (((idx t0.hides a).getD default).to) t2 (sub64 t3 1)).isSome) <|
 if ((b.table==t1)&&((self t0 (((idx t0.hides a).getD default).to) t2 (sub64 t3 1)).getD default)) then
 some true
 else
 c (add64 a 1)
 else
 some false
def zao.body (n:Nat) (self:Model→Int→Int→Int→Option Bool) (t0:Model) (t1:Int) (t2:Int) (t3:Int):Option Bool:=
 if (t1==t2) then
 some true
 else
 loopF (zao.l1 n self t0 t1 t2 t3) n 0
def zao:Nat→Model→Int→Int→Int→Option Bool
 | 0,_,_,_,_=>none
 | n+1,t0,t1,t2,t3=>zao.body n (zao n) t0 t1 t2 t3
def zam.l2 (n:Nat) (t0:Model) (b:Int→Option Bool) (a:Int):Option Bool:=
 if (decide (a<(t0.hides.length:Int))) then
 (idx t0.hides a).bind λc=>
 (idx t0.hides a).bind λd=>
 (zao n t0 c.to d.table (t0.tables.length:Int)).bind λe=>
 if e then
 some false
 else
 b (add64 a 1)
 else
 some true
def zam.l1 (n:Nat) (t0:Model) (e:Int→Option Bool) (d:Int):Option Bool:=
 if (decide (d<(t0.hides.length:Int))) then
 (idx t0.hides d).bind λa=>
 if (((((decide (a.table<0))||(decide ((t0.tables.length:Int)≤a.table)))||(decide (a.to<0)))||(decide ((t0.tables.length:Int)≤a.to)))||(a.table==a.to)) then
 some false
 else
 (idx t0.tables a.table).bind λb=>
 (idx t0.tables a.to).bind λc=>
 grd ((((((b.kind != 0)||(c.kind != 0))||(decide (a.column<0)))||(decide ((b.columns.length:Int)≤a.column)))||((c.columns.length:Int) != 1))||(idx c.columns 0).isSome) <|
 grd ((((((b.kind != 0)||(c.kind != 0))||(decide (a.column<0)))||(decide ((b.columns.length:Int)≤a.column)))||((c.columns.length:Int) != 1))||(idx b.columns a.column).isSome) <|
 if ((((((b.kind != 0)||(c.kind != 0))||(decide (a.column<0)))||(decide ((b.columns.length:Int)≤a.column)))||((c.columns.length:Int) != 1))||(((idx c.columns 0).getD default) != ((idx b.columns a.column).getD default))) then
 some false
 else
 e (add64 d 1)
 else
 loopF (zam.l2 n t0) n 0
def zam (n:Nat) (t0:Model):Option Bool:=
 if (decide (12<(t0.hides.length:Int))) then
 some false
 else
 loopF (zam.l1 n t0) n 0
def zcX (n:Nat) (t0:Model):Option Bool:=
 (zaw n t0.sorts t0.tables).bind λb=>
 grd (((!b)||(decide (24<(t0.families.length:Int))))||(zal n t0.families).isSome) <|
 if (((!b)||(decide (24<(t0.families.length:Int))))||(!((zal n t0.families).getD default))) then
 some false
 else
 (zL n t0).bind λa=>
 grd (!a||(zu n t0).isSome) <|
 grd (!(a&&((zu n t0).getD default))||(zam n t0).isSome) <|
 some ((a&&((zu n t0).getD default))&&((zam n t0).getD default))
def zez (n:Nat) (t0:Model) (t1:Question):Option Bool:=
 (zcX n t0).bind λb=>
 if ((((((!b)||(decide (t1.e<0)))||(decide (t1.f<0)))||(decide ((t0.actions.length:Int)≤t1.e)))||(decide ((t0.actions.length:Int)≤t1.f)))||(decide (t1.target.index<0))) then
 some false
 else
 if t1.target.hold then
 (idx t0.actions t1.e).bind λa=>
 some (decide (t1.target.index<(a.effect.hold.length:Int)))
 else
 some ((decide (t1.e≤t1.f))&&(decide (t1.target.index<(t0.constraints.length:Int))))
def zdT (n:Nat) (t0:Int):Option Bool:=
 some ((t0==0)||(t0==1))
def zbp.l1 (n:Nat) (t0:Model) (t1:Table) (a:(Int×Int)→Option Int) (s:Int×Int):Option Int:=
 if (decide (s.2<(t1.columns.length:Int))) then
 (idx t1.columns s.2).bind λb=>
 (idx t0.sorts b).bind λc=>
 a (mul64 s.1 c,add64 s.2 1)
 else
 some s.1
def zbp (n:Nat) (t0:Model) (t1:Table):Option Int:=
 loopF (zbp.l1 n t0 t1) n (1,0)
def zaJ.l1 (n:Nat) (t0:Model) (b:(Int×Int)→Option Int) (s:Int×Int):Option Int:=
 if (decide (s.2<(t0.tables.length:Int))) then
 jn (λ(g:Int)=>
 b (g,add64 s.2 1)) λa=>
 (idx t0.tables s.2).bind λc=>
 (zdT n c.kind).bind λd=>
 if d then
 (idx t0.tables s.2).bind λe=>
 (zbp n t0 e).bind λf=>
 a (add64 s.1 f)
 else
 a s.1
 else
 some s.1
def zaJ (n:Nat) (t0:Model):Option Int:=
 loopF (zaJ.l1 n t0) n (0,0)
def zdg.l1 (n:Nat) (t0:Effect) (t1:Int) (b:(Int×Int)→Option Int) (s:Int×Int):Option Int:=
 if (decide (s.2<(t0.delta.length:Int))) then
 jn (λ(e:Int)=>
 b (e,add64 s.2 1)) λa=>
 (idx t0.delta s.2).bind λc=>
 if (c.cell==t1) then
 (idx t0.delta s.2).bind λd=>
 a (add64 s.1 d.add)
 else
 a s.1
 else
 some s.1
def zdg (n:Nat) (t0:Effect) (t1:Int):Option Int:=
 loopF (zdg.l1 n t0 t1) n (0,0)
def zaU.l1 (n:Nat) (t0:List Int) (t1:Effect) (a:((List Int)×Int)→Option (List Int)) (s:(List Int)×Int):Option (List Int):=
 if (decide (s.2<(t0.length:Int))) then
 (idx t0 s.2).bind λb=>
 (zdg n t1 s.2).bind λc=>
 (app 8 s.1 [add64 b c]).bind λd=>
 a (d,add64 s.2 1)
 else
 some s.1
def zaU (n:Nat) (t0:List Int) (t1:Effect):Option (List Int):=
 loopF (zaU.l1 n t0 t1) n (([]:List Int),0)
def zau.l1 (n:Nat) (t0:Constraint) (t1:Int) (c:Int→Option Bool) (a:Int):Option Bool:=
 if (decide (a<(t0.row.terms.length:Int))) then
 (idx t0.row.terms a).bind λb=>
 grd ((decide (b.cell<0))||(idx t0.row.terms a).isSome) <|
 if ((decide (b.cell<0))||(decide (t1≤((idx t0.row.terms a).getD default).cell))) then
 some false
 else
 c (add64 a 1)
 else
 some (t0.kind==0)
def zau (n:Nat) (t0:Constraint) (t1:Int):Option Bool:=
 if (t0.kind==1) then
 some ((((decide (1≤t0.size))&&(decide (t0.size≤6)))&&(decide (0≤t0.first)))&&(decide (t0.first≤sub64 t1 (mul64 t0.size t0.size))))
 else
 loopF (zau.l1 n t0 t1) n 0
def zdy (n:Nat) (t0:Constraint) (t1:List Int) (t2:Int) (t3:Int):Option Bool:=
 (idx t1 (add64 (add64 t0.first (mul64 t2 t0.size)) t3)).bind λa=>
 some (decide (1≤a))
def zdf.l1 (n:Nat) (t0:List Int) (t1:Int) (b:Int→Option Bool) (a:Int):Option Bool:=
 if (decide (a<(t0.length:Int))) then
 (idx t0 a).bind λc=>
 if (c==t1) then
 some true
 else
 b (add64 a 1)
 else
 some false
def zdf (n:Nat) (t0:List Int) (t1:Int):Option Bool:=
 loopF (zdf.l1 n t0 t1) n 0
def zaC.l1 (n:Nat) (self:Constraint→(List Int)→(List Int)→Int→Option (List (List Int))) (t0:Constraint) (t1:List Int) (t2:List Int) (t3:Int) (b:Int) (e:((List (List Int))×Int)→Option (List (List Int))) (s:(List (List Int))×Int):Option (List (List Int)):=
 if (decide (s.2<t0.size)) then
 jn (λ(d:(List (List Int)))=>
 e (d,add64 s.2 1)) λa=>
 (zdf n t2 s.2).bind λc=>
 grd (c||(zdy n t0 t1 b s.2).isSome) <|
 if (c||(!((zdy n t0 t1 b s.2).getD default))) then
 a s.1
 else
 (app 8 ([]:List Int) t2).bind λf=>
 (app 8 f [s.2]).bind λg=>
 (self t0 t1 g t3).bind λh=>
 (app 24 s.1 h).bind λi=>
 a i
 else
 some s.1
def zaC.body (n:Nat) (self:Constraint→(List Int)→(List Int)→Int→Option (List (List Int))) (t0:Constraint) (t1:List Int) (t2:List Int) (t3:Int):Option (List (List Int)):=
 (idx t2 (sub64 (t2.length:Int) 1)).bind λa=>
 if ((t2.length:Int)==t3) then
 (idx t2 0).bind λb=>
 (zdy n t0 t1 a b).bind λc=>
 if c then
 some [t2]
 else
 some ([]:List (List Int))
 else
 (idx t2 0).bind λd=>
 loopF (zaC.l1 n self t0 t1 t2 t3 a) n (([]:List (List Int)),add64 d 1)
def zaC:Nat→Constraint→(List Int)→(List Int)→Int→Option (List (List Int))
 | 0,_,_,_,_=>none
 | n+1,t0,t1,t2,t3=>zaC.body n (zaC n) t0 t1 t2 t3
def za2.l2 (n:Nat) (t0:Constraint) (t1:List Int) (c:Int) (d:Int→Option (List Int)) (e:Int→Option (List Int)) (a:Int):Option (List Int):=
 if (decide (a<t0.size)) then
 (zaC n t0 t1 [a] c).bind λb=>
 if (decide (0<(b.length:Int))) then
 (idx b 0).bind λf=>
 some f
 else
 e (add64 a 1)
 else
 d (add64 c 1)
def za2.l1 (n:Nat) (t0:Constraint) (t1:List Int) (b:Int→Option (List Int)) (a:Int):Option (List Int):=
 if (decide (a≤t0.size)) then
 loopF (za2.l2 n t0 t1 a b) n 0
 else
 some ([]:List Int)
def za2 (n:Nat) (t0:Constraint) (t1:List Int):Option (List Int):=
 grd ((t0.kind != 1)||(zau n t0 (t1.length:Int)).isSome) <|
 if ((t0.kind != 1)||(!((zau n t0 (t1.length:Int)).getD default))) then
 some ([]:List Int)
 else
 loopF (za2.l1 n t0 t1) n 1
def zca.l1 (n:Nat) (t0:Row) (t1:List Int) (d:(Int×Int×Int)→Option Bool) (s:Int×Int×Int):Option Bool:=
 if (decide (s.2.2<(t0.terms.length:Int))) then
 (idx t0.terms s.2.2).bind λa=>
 (idx t1 a.cell).bind λe=>
 (quo64 e 4294967296).bind λf=>
 (idx t1 a.cell).bind λg=>
 (rem64 g 4294967296).bind λh=>
 d (add64 s.1 (mul64 a.factor f),add64 s.2.1 (mul64 a.factor h),add64 s.2.2 1)
 else
 (shrO .i64 s.2.1 32).bind λb=>
 (shrO .i64 t0.bound 32).bind λc=>
 some ((decide (add64 s.1 b<c))||(((add64 s.1 b)==c)&&(decide (band .i64 s.2.1 4294967295≤band .i64 t0.bound 4294967295))))
def zca (n:Nat) (t0:Row) (t1:List Int):Option Bool:=
 loopF (zca.l1 n t0 t1) n (0,0,0)
def zhC (n:Nat) (t0:Constraint) (t1:List Int):Option Bool:=
 (zau n t0 (t1.length:Int)).bind λc=>
 if (!c) then
 some false
 else
 if (t0.kind==1) then
 (za2 n t0 t1).bind λa=>
 some ((a.length:Int)==0)
 else
 (zca n t0.row t1).bind λb=>
 some b
def zaR (n:Nat) (t0:Constraint) (t1:List Int):Option Bool:=
 (zhC n t0 t1).bind λa=>
 some a
def zgz (n:Nat) (t0:Row) (t1:List Int):Option Bool:=
 (zaR n (⟨0,0,t0,0,0⟩:Constraint) t1).bind λa=>
 some a
def zN.l2 (n:Nat) (t1:Effect) (t2:List Int) (b:Int→Option Bool) (a:Int):Option Bool:=
 if (decide (a<(t1.hold.length:Int))) then
 (idx t1.hold a).bind λc=>
 (zgz n c t2).bind λd=>
 if (!d) then
 some false
 else
 b (add64 a 1)
 else
 some true
def zN.l1 (n:Nat) (t0:Model) (t1:Effect) (t2:List Int) (c:List Int) (d:Int→Option Bool) (a:Int):Option Bool:=
 if (decide (a<(t0.constraints.length:Int))) then
 (idx t0.constraints a).bind λe=>
 (zaR n e t2).bind λb=>
 grd ((!b)||(idx t0.constraints a).isSome) <|
 grd ((!b)||(zaR n ((idx t0.constraints a).getD default) c).isSome) <|
 if ((!b)||(!((zaR n ((idx t0.constraints a).getD default) c).getD default))) then
 some false
 else
 d (add64 a 1)
 else
 loopF (zN.l2 n t1 t2) n 0
def zN (n:Nat) (t0:Model) (t1:Effect) (t2:List Int):Option Bool:=
 (zaU n t2 t1).bind λa=>
 loopF (zN.l1 n t0 t1 t2 a) n 0
def zax.l2 (n:Nat) (t0:Model) (t1:Question) (t2:List Int) (t3:List Int) (i:Action) (j:Action) (b:List Int) (c:Int→Option Bool) (a:Int):Option Bool:=
 if (decide (a<(t2.length:Int))) then
 grd (t1.target.hold||(idx t2 a).isSome) <|
 grd (!(t1.target.hold||(t1.target.index != ((idx t2 a).getD default)))||(idx t2 a).isSome) <|
 grd (!(t1.target.hold||(t1.target.index != ((idx t2 a).getD default)))||(idx t0.constraints ((idx t2 a).getD default)).isSome) <|
 grd (!(t1.target.hold||(t1.target.index != ((idx t2 a).getD default)))||(zaR n ((idx t0.constraints ((idx t2 a).getD default)).getD default) b).isSome) <|
 if ((t1.target.hold||(t1.target.index != ((idx t2 a).getD default)))&&(!((zaR n ((idx t0.constraints ((idx t2 a).getD default)).getD default) b).getD default))) then
 some false
 else
 c (add64 a 1)
 else
 if t1.target.hold then
 (idx i.effect.hold t1.target.index).bind λd=>
 (zaU n t3 j.effect).bind λe=>
 (zgz n d e).bind λf=>
 some (!f)
 else
 (idx t0.constraints t1.target.index).bind λg=>
 (zaR n g b).bind λh=>
 some (!h)
def zax.l1 (n:Nat) (t0:Model) (t1:Question) (t2:List Int) (t3:List Int) (h:Int→Option Bool) (a:Int):Option Bool:=
 if (decide (a<(t2.length:Int))) then
 (idx t2 a).bind λd=>
 grd ((decide (d<0))||(idx t2 a).isSome) <|
 if ((decide (d<0))||(decide ((t0.constraints.length:Int)≤((idx t2 a).getD default)))) then
 some false
 else
 h (add64 a 1)
 else
 (idx t0.actions t1.e).bind λc=>
 (idx t0.actions t1.f).bind λb=>
 (zN n t0 c.effect t3).bind λg=>
 grd ((!g)||(zN n t0 b.effect t3).isSome) <|
 if ((!g)||(!((zN n t0 b.effect t3).getD default))) then
 some false
 else
 (zaU n t3 c.effect).bind λi=>
 (zaU n i b.effect).bind λj=>
 loopF (zax.l2 n t0 t1 t2 t3 c b j) n 0
def zax (n:Nat) (t0:Model) (t1:Question) (t2:List Int) (t3:List Int):Option Bool:=
 (zaJ n t0).bind λa=>
 if ((t3.length:Int) != a) then
 some false
 else
 loopF (zax.l1 n t0 t1 t2 t3) n 0
def zdM (n:Nat) (t0:Model) (t1:Question) (t2:List Int) (t3:List Int):Option Bool:=
 (zez n t0 t1).bind λa=>
 if (!a) then
 some false
 else
 (zax n t0 t1 t2 t3).bind λb=>
 some b
def zbA.l1 (n:Nat) (t0:Model) (t1:Scenario) (t2:List Int) (c:Int→Option Bool) (a:Int):Option Bool:=
 if (decide (a<(t2.length:Int))) then
 (idx t2 a).bind λb=>
 grd ((decide (b<0))||(idx t2 a).isSome) <|
 grd (((decide (b<0))||(decide ((t0.constraints.length:Int)≤((idx t2 a).getD default))))||(idx t2 a).isSome) <|
 grd (((decide (b<0))||(decide ((t0.constraints.length:Int)≤((idx t2 a).getD default))))||(idx t0.constraints ((idx t2 a).getD default)).isSome) <|
 if (((decide (b<0))||(decide ((t0.constraints.length:Int)≤((idx t2 a).getD default))))||((((idx t0.constraints ((idx t2 a).getD default)).getD default).kind) != 0)) then
 some false
 else
 c (add64 a 1)
 else
 (zdM n t0 t1.question t2 t1.state).bind λd=>
 some d
def zbA (n:Nat) (t0:Model) (t1:Scenario) (t2:List Int):Option Bool:=
 loopF (zbA.l1 n t0 t1 t2) n 0
def zdU (n:Nat) (t0:Model) (t1:Scenario):Option (List Int):=
 (zez n t0 t1.question).bind λa=>
 grd ((!a)||(zaJ n t0).isSome) <|
 if ((!a)||((t1.state.length:Int) != ((zaJ n t0).getD default))) then
 some ([]:List Int)
 else
 (idx t0.actions t1.question.e).bind λb=>
 (zaU n t1.state b.effect).bind λc=>
 (idx t0.actions t1.question.f).bind λd=>
 (zaU n c d.effect).bind λg=>
 some g
def zK.body (n:Nat) (self:Int→Option (List UInt8)) (t0:Int):Option (List UInt8):=
 if (decide (t0<0)) then
 (self (neg64 t0)).bind λg=>
 (cat [45] g).bind λh=>
 some h
 else
 (rem64 t0 10).bind λb=>
 jn (λ(f:(List UInt8))=>
 some f) λa=>
 if (decide (10≤t0)) then
 (quo64 t0 10).bind λc=>
 (self c).bind λd=>
 (cat d (zg7 [wk .u8 (add64 48 b)])).bind λe=>
 a e
 else
 a (zg7 [wk .u8 (add64 48 b)])
def zK:Nat→Int→Option (List UInt8)
 | 0,_=>none
 | n+1,t0=>zK.body n (zK n) t0
def zbI.l1 (n:Nat) (t0:List Int) (b:((List UInt8)×Int)→Option (List UInt8)) (s:(List UInt8)×Int):Option (List UInt8):=
 if (decide (s.2<(t0.length:Int))) then
 jn (λ(h:(List UInt8))=>
 (idx t0 s.2).bind λd=>
 (zK n d).bind λe=>
 (cat h e).bind λf=>
 b (f,add64 s.2 1)) λa=>
 if (decide (0<s.2)) then
 (cat s.1 [44,32]).bind λc=>
 a c
 else
 a s.1
 else
 (cat s.1 [41]).bind λg=>
 some g
def zbI (n:Nat) (t0:List Int):Option (List UInt8):=
 loopF (zbI.l1 n t0) n ([40],0)
def zt.l3 (n:Nat) (t0:Model) (t1:Int) (a:Table) (c:List Int) (b:Int) (d:((List Int)×Int)→Option (List UInt8)) (e:(Int×Int)→Option (List UInt8)) (s:Int×Int):Option (List UInt8):=
 if (decide (s.2<(a.columns.length:Int))) then
 (idx a.columns s.2).bind λf=>
 (idx t0.sorts f).bind λg=>
 e (mul64 s.1 g,add64 s.2 1)
 else
 (quo64 (sub64 t1 a.first) s.1).bind λh=>
 (idx a.columns b).bind λi=>
 (idx t0.sorts i).bind λj=>
 (rem64 h j).bind λk=>
 (app 8 c [k]).bind λl=>
 d (l,add64 b 1)
def zt.l2 (n:Nat) (t0:Model) (t1:Int) (a:Table) (b:((List Int)×Int)→Option (List UInt8)) (s:(List Int)×Int):Option (List UInt8):=
 if (decide (s.2<(a.columns.length:Int))) then
 loopF (zt.l3 n t0 t1 a s.1 s.2 b) n (1,add64 s.2 1)
 else
 (zbI n s.1).bind λc=>
 (cat a.name c).bind λd=>
 some d
def zt.l1 (n:Nat) (t0:Model) (t1:Int) (d:Int→Option (List UInt8)) (b:Int):Option (List UInt8):=
 if (decide (b<(t0.tables.length:Int))) then
 (idx t0.tables b).bind λa=>
 (zdT n a.kind).bind λc=>
 grd (((!c)||(decide (t1<a.first)))||(zbp n t0 a).isSome) <|
 if (((!c)||(decide (t1<a.first)))||(decide (((zbp n t0 a).getD default)≤sub64 t1 a.first))) then
 d (add64 b 1)
 else
 loopF (zt.l2 n t0 t1 a) n (([]:List Int),0)
 else
 some []
def zt (n:Nat) (t0:Model) (t1:Int):Option (List UInt8):=
 (zcX n t0).bind λa=>
 if (!a) then
 some []
 else
 loopF (zt.l1 n t0 t1) n 0
def zcx (n:Nat) (t0:Model) (t1:Int):Option (List UInt8):=
 (zcX n t0).bind λe=>
 if (((!e)||(decide (t1<0)))||(decide ((t0.actions.length:Int)≤t1))) then
 some []
 else
 (idx t0.actions t1).bind λa=>
 (idx t0.operations a.operation).bind λb=>
 (zbI n a.arguments).bind λc=>
 (cat b.name c).bind λd=>
 some d
def zcw (n:Nat) (t0:Int) (t1:Int) (t2:Int):Option Bool:=
 some ((decide (t1≤t0))&&(decide (t0≤t2)))
def zcv.l1 (n:Nat) (t0:Row) (t1:Int) (b:(Int×Int)→Option Bool) (s:Int×Int):Option Bool:=
 if (decide (s.2<(t0.terms.length:Int))) then
 (idx t0.terms s.2).bind λa=>
 grd ((((decide (a.cell≤s.1))||(decide (t1≤a.cell)))||(a.factor==0))||(zcw n a.factor (-1000) 1000).isSome) <|
 if ((((decide (a.cell≤s.1))||(decide (t1≤a.cell)))||(a.factor==0))||(!((zcw n a.factor (-1000) 1000).getD default))) then
 some false
 else
 b (a.cell,add64 s.2 1)
 else
 (zcw n t0.bound (-1000000000) 1000000000).bind λc=>
 some c
def zcv (n:Nat) (t0:Row) (t1:Int):Option Bool:=
 loopF (zcv.l1 n t0 t1) n ((-1),0)
def zb0.l1 (n:Nat) (t0:Model) (t1:Row) (f:((List UInt8)×Int)→Option (List UInt8)) (s:(List UInt8)×Int):Option (List UInt8):=
 if (decide (s.2<(t1.terms.length:Int))) then
 (idx t1.terms s.2).bind λa=>
 jn (λ(e:(List UInt8))=>
 jn (λ(j:(List UInt8))=>
 (zt n t0 a.cell).bind λp=>
 (cat j p).bind λq=>
 f (q,add64 s.2 1)) λc=>
 if ((decide (1<a.factor))||(decide (a.factor<(-1)))) then
 (zK n (gmax a.factor (neg64 a.factor))).bind λl=>
 (cat e l).bind λm=>
 (cat m [32,42,32]).bind λo=>
 c o
 else
 c e) λb=>
 if ((decide (0<s.2))&&(decide (a.factor<0))) then
 (cat s.1 [32,45,32]).bind λg=>
 b g
 else
 if (decide (0<s.2)) then
 (cat s.1 [32,43,32]).bind λh=>
 b h
 else
 if (decide (a.factor<0)) then
 (cat s.1 [45]).bind λi=>
 b i
 else
 b s.1
 else
 jn (λ(k:(List UInt8))=>
 (cat k [32,60,61,32]).bind λr=>
 (zK n t1.bound).bind λt=>
 (cat r t).bind λu=>
 some u) λd=>
 if ((t1.terms.length:Int)==0) then
 d [48]
 else
 d s.1
def zb0 (n:Nat) (t0:Model) (t1:Row):Option (List UInt8):=
 (zcX n t0).bind λa=>
 grd ((!a)||(zaJ n t0).isSome) <|
 grd ((!a)||(zcv n t1 ((zaJ n t0).getD default)).isSome) <|
 if ((!a)||(!((zcv n t1 ((zaJ n t0).getD default)).getD default))) then
 some []
 else
 loopF (zb0.l1 n t0 t1) n ([],0)
def zbz.l1 (n:Nat) (t0:Row) (t1:List Int) (a:(Int×Int)→Option Int) (s:Int×Int):Option Int:=
 if (decide (s.2<(t0.terms.length:Int))) then
 (idx t0.terms s.2).bind λb=>
 (idx t0.terms s.2).bind λc=>
 (idx t1 c.cell).bind λd=>
 a (add64 s.1 (mul64 b.factor d),add64 s.2 1)
 else
 some s.1
def zbz (n:Nat) (t0:Row) (t1:List Int):Option Int:=
 loopF (zbz.l1 n t0 t1) n (0,0)
def zcb.l1 (n:Nat) (t0:Graph) (t1:List Int) (a:((List Bool)×Int)→Option (List Bool)) (s:(List Bool)×Int):Option (List Bool):=
 if (decide (s.2<mul64 t0.size t0.size)) then
 (idx t1 (add64 t0.first s.2)).bind λb=>
 (idx t0.least s.2).bind λc=>
 (app 1 s.1 [decide (c≤b)]).bind λd=>
 a (d,add64 s.2 1)
 else
 some s.1
def zcb (n:Nat) (t0:Graph) (t1:List Int):Option (List Bool):=
 loopF (zcb.l1 n t0 t1) n (([]:List Bool),0)
def zfF (n:Nat) (t0:Int) (t1:List Bool):Option Bool:=
 some (((decide (1≤t0))&&(decide (t0≤6)))&&((t1.length:Int)==(mul64 t0 t0)))
def zbZ.l1 (n:Nat) (t0:List Int) (t1:Int) (b:Int→Option Bool) (a:Int):Option Bool:=
 if (decide (a<(t0.length:Int))) then
 (idx t0 a).bind λc=>
 if (c==t1) then
 some true
 else
 b (add64 a 1)
 else
 some false
def zbZ (n:Nat) (t0:List Int) (t1:Int):Option Bool:=
 loopF (zbZ.l1 n t0 t1) n 0
def zcG.l1 (n:Nat) (t0:List Int) (t1:Int) (a:((List Int)×Int)→Option (List Int)) (s:(List Int)×Int):Option (List Int):=
 if (decide (s.2<(t0.length:Int))) then
 (idx t0 s.2).bind λb=>
 (app 8 s.1 [b]).bind λc=>
 a (c,add64 s.2 1)
 else
 (app 8 s.1 [t1]).bind λd=>
 some d
def zcG (n:Nat) (t0:List Int) (t1:Int):Option (List Int):=
 loopF (zcG.l1 n t0 t1) n (([]:List Int),0)
def zB.l4 (n:Nat) (t0:Int) (t1:List Bool) (b:List (List Int)) (a:Int) (g:((List (List Int))×(List (List Int))×Int)→Option (List (List Int))) (l:Int) (e:List (List Int)) (h:((List (List Int))×Int)→Option (List (List Int))) (s:(List (List Int))×Int):Option (List (List Int)):=
 if (decide (s.2<t0)) then
 jn (λ(f:(List (List Int)))=>
 h (f,add64 s.2 1)) λd=>
 (idx t1 (add64 (mul64 l t0) s.2)).bind λc=>
 grd (!c||(idx b a).isSome) <|
 grd (!c||(zbZ n ((idx b a).getD default) s.2).isSome) <|
 if (c&&(!((zbZ n ((idx b a).getD default) s.2).getD default))) then
 (idx b a).bind λi=>
 (zcG n i s.2).bind λj=>
 (app 24 s.1 [j]).bind λk=>
 d k
 else
 d s.1
 else
 g (e,s.1,add64 a 1)
def zB.l3 (n:Nat) (t0:Int) (t1:List Bool) (b:List (List Int)) (p:Int) (g:((List (List Int))×(List (List Int))×Int)→Option (List (List Int))) (h:((List (List Int))×(List (List Int))×Int)→Option (List (List Int))) (s:(List (List Int))×(List (List Int))×Int):Option (List (List Int)):=
 let a:=s.2.2
 if (decide (a<(b.length:Int))) then
 (idx b a).bind λi=>
 (idx i 0).bind λd=>
 (idx b a).bind λj=>
 (idx b a).bind λk=>
 (idx j (sub64 (k.length:Int) 1)).bind λe=>
 jn (λ(f:(List (List Int)))=>
 loopF (zB.l4 n t0 t1 b a h e f) n (s.2.1,add64 d 1)) λc=>
 (idx t1 (add64 (mul64 e t0) d)).bind λl=>
 if l then
 (idx b a).bind λm=>
 (app 24 s.1 [m]).bind λo=>
 c o
 else
 c s.1
 else
 g (s.1,s.2.1,add64 p 1)
def zB.l2 (n:Nat) (t0:Int) (t1:List Bool) (a:((List (List Int))×(List (List Int))×Int)→Option (List (List Int))) (s:(List (List Int))×(List (List Int))×Int):Option (List (List Int)):=
 if (decide (s.2.2<t0)) then
 loopF (zB.l3 n t0 t1 s.2.1 s.2.2 a) n (s.1,([]:List (List Int)),0)
 else
 some s.1
def zB.l1 (n:Nat) (t0:Int) (t1:List Bool) (a:((List (List Int))×Int)→Option (List (List Int))) (s:(List (List Int))×Int):Option (List (List Int)):=
 if (decide (s.2<t0)) then
 (app 24 s.1 [[s.2]]).bind λb=>
 a (b,add64 s.2 1)
 else
 loopF (zB.l2 n t0 t1) n (([]:List (List Int)),s.1,0)
def zB (n:Nat) (t0:Int) (t1:List Bool):Option (List (List Int)):=
 (zfF n t0 t1).bind λa=>
 if (!a) then
 some ([]:List (List Int))
 else
 loopF (zB.l1 n t0 t1) n (([]:List (List Int)),0)
def zfE (n:Nat) (t0:Int) (t1:List Bool):Option (List Int):=
 (zB n t0 t1).bind λa=>
 if ((a.length:Int)==0) then
 some ([]:List Int)
 else
 (idx a 0).bind λb=>
 some b
def zaa.l3 (n:Nat) (t0:Model) (p:List UInt8) (q:List UInt8) (r:List UInt8) (d:Constraint) (b:List Int) (c:((List UInt8)×Int)→Option ((List (List UInt8))×Int)) (s:(List UInt8)×Int):Option ((List (List UInt8))×Int):=
 if (decide (s.2<(b.length:Int))) then
 jn (λ(e:(List UInt8))=>
 (idx b s.2).bind λg=>
 (zK n g).bind λh=>
 (cat e h).bind λi=>
 c (i,add64 s.2 1)) λa=>
 if (decide (0<s.2)) then
 (cat s.1 [44,32]).bind λf=>
 a f
 else
 a s.1
 else
 (idx t0.families d.family).bind λj=>
 (cat [98,101,104,105,110,100,32,98,111,116,104,32] j).bind λk=>
 (cat k [58,32,116,104,101,114,101,32,105,115,32,97,32,99,121,99,108,101,32,116,104,114,111,117,103,104,32]).bind λl=>
 (cat l s.1).bind λm=>
 (app 16 ([p,q,r]:List (List UInt8)) [m]).bind λo=>
 some (o,0)
def zaa.l2 (n:Nat) (t0:Model) (g:List UInt8) (h:List UInt8) (i:List UInt8) (a:Constraint) (c:List Int) (b:((List Int)×Int)→Option ((List (List UInt8))×Int)) (s:(List Int)×Int):Option ((List (List UInt8))×Int):=
 if (decide (s.2<mul64 a.size a.size)) then
 (app 8 s.1 [1]).bind λd=>
 b (d,add64 s.2 1)
 else
 (zcb n (⟨a.first,a.size,s.1⟩:Graph) c).bind λe=>
 (zfE n a.size e).bind λf=>
 loopF (zaa.l3 n t0 g h i a f) n ([],0)
def zaa.l1 (n:Nat) (t0:Model) (t1:Scenario) (l:((List UInt8)×Int)→Option ((List (List UInt8))×Int)) (s:(List UInt8)×Int):Option ((List (List UInt8))×Int):=
 if (decide (s.2<(t1.state.length:Int))) then
 jn (λ(Q:(List UInt8))=>
 l (Q,add64 s.2 1)) λg=>
 (idx t1.state s.2).bind λG=>
 if (G != 0) then
 jn (λ(R:(List UInt8))=>
 (zt n t0 s.2).bind λI=>
 (cat R I).bind λJ=>
 (cat J [32,61,32]).bind λK=>
 (idx t1.state s.2).bind λL=>
 (zK n L).bind λM=>
 (cat K M).bind λN=>
 g N) λh=>
 if (!decide (s.1=[])) then
 (cat s.1 [44,32]).bind λH=>
 h H
 else
 h s.1
 else
 g s.1
 else
 jn (λ(S:(List UInt8))=>
 (cat [105,110,32,116,104,101,32,115,116,97,116,101,32,119,105,116,104,32] S).bind λb=>
 (zcx n t0 t1.question.e).bind λO=>
 (cat [114,101,112,108,105,99,97,32,48,32,101,120,101,99,117,116,101,115,32] O).bind λc=>
 (zcx n t0 t1.question.f).bind λP=>
 (cat [114,101,112,108,105,99,97,32,49,32,101,120,101,99,117,116,101,115,32] P).bind λd=>
 if t1.question.target.hold then
 (idx t0.actions t1.question.e).bind λT=>
 (idx T.effect.hold t1.question.target.index).bind λk=>
 (idx t0.actions t1.question.f).bind λU=>
 (zaU n t1.state U.effect).bind λV=>
 (zb0 n t0 k).bind λm=>
 (cat [98,101,104,105,110,100,32,116,104,101,32,115,101,99,111,110,100,32,97,99,116,105,111,110,32] m).bind λo=>
 (cat o [32,100,111,101,115,32,110,111,116,32,104,111,108,100,58,32]).bind λp=>
 (zbz n k V).bind λq=>
 (zK n q).bind λr=>
 (cat p r).bind λt=>
 (app 16 ([b,c,d]:List (List UInt8)) [t]).bind λu=>
 some (u,0)
 else
 (idx t0.constraints t1.question.target.index).bind λa=>
 (zdU n t0 t1).bind λj=>
 if (a.kind==0) then
 (idx t0.families a.family).bind λw=>
 (cat [98,101,104,105,110,100,32,98,111,116,104,32] w).bind λx=>
 (cat x [58,32]).bind λy=>
 (zb0 n t0 a.row).bind λz=>
 (cat y z).bind λA=>
 (cat A [32,100,111,101,115,32,110,111,116,32,104,111,108,100,58,32]).bind λB=>
 (zbz n a.row j).bind λC=>
 (zK n C).bind λD=>
 (cat B D).bind λE=>
 (app 16 ([b,c,d]:List (List UInt8)) [E]).bind λF=>
 some (F,0)
 else
 loopF (zaa.l2 n t0 b c d a j) n (([]:List Int),0)) λi=>
 if (decide (s.1=[])) then
 i [48,32,101,118,101,114,121,119,104,101,114,101]
 else
 i s.1
def zaa (n:Nat) (t0:Model) (t1:Scenario):Option ((List (List UInt8))×Int):=
 (zbA n t0 t1 ([]:List Int)).bind λa=>
 if (!a) then
 some (([]:List (List UInt8)),1)
 else
 loopF (zaa.l1 n t0 t1) n ([],0)
def zcW (n:Nat) (t0:Model) (t1:Scenario):Option Bool:=
 (zhu n ).bind λd=>
 if (!d) then
 some false
 else
 (zby n t0).bind λc=>
 grd ((!c)||(zdx n t1.state).isSome) <|
 if ((!c)||(!((zdx n t1.state).getD default))) then
 some true
 else
 (zaO n t0 t1).bind λa=>
 (zaa n t0 t1).bind λb=>
 grd (!(a.2==b.2)||(zb n a.1 b.1).isSome) <|
 some ((a.2==b.2)&&((zb n a.1 b.1).getD default))
end
section
variable [Env]
theorem law24_example_ok (n r) (h:zhS n=some r):Pure pg 39 [] (Model.enc r):=by
 refine Pure.ot Tryz.func39 I Tryz.ntmps39 I λA w=>.sr<|.allocZ I I I I (.agg Zc30 (ds':=[eA [],eB [],eC [],eD [],eE [],eF [],eG []]) (.o (.o (.o (.o (.o (.o .o1))))))) I<|.nil<|.sr<|.p I (.castD (Range.enc (⟨0,3⟩:Range)) I (.build I Pl85 (.agg Zc85 (ds':=[_,_]) (.e .e1)) I I))<|.p I (.castD (Table.enc (⟨[99],1,[],(⟨0,3⟩:Range),0⟩:Table)) I (.build I Pl119 (.agg Zc119 (ds':=[_,_,eA [],_,_,_]) (.e (.e (.o (.e (.e .e1)))))) I I))<|.p I (.buildSl [_] I I E23 I (λ_=>I) I (enc:=Table.enc))<|.p I (.buildSl [_] I I E24 I (λ_=>I) I (enc:=D.str))<|.p I (.castD (Term.enc (⟨0,(-1)⟩:Term)) I (.build I Pl77 (.agg Zc77 (ds':=[_,_]) (.e .e1)) I I))<|.p I (.buildSl [_] I I E67 I (λ_=>I) I (enc:=Term.enc))<|.p I (.castD (Row.enc (⟨[(⟨0,(-1)⟩:Term)],0⟩:Row)) I (.build I Pl69 (.agg Zc69 (ds':=[_,_]) (.e .e1)) I I))<|.p I (.castD (Constraint.enc (⟨0,0,(⟨[(⟨0,(-1)⟩:Term)],0⟩:Row),0,0⟩:Constraint)) I (.build I Pl74 (.agg Zc74 (ds':=[_,_,_,_,_,_]) (.e (.e (.e (.e (.e .e1)))))) I I))<|.p I (.castD (Term.enc (⟨0,1⟩:Term)) I (.build I Pl77 (.agg Zc77 (ds':=[_,_]) (.e .e1)) I I))<|.p I (.buildSl [_] I I E67 I (λ_=>I) I (enc:=Term.enc))<|.p I (.castD (Row.enc (⟨[(⟨0,1⟩:Term)],3⟩:Row)) I (.build I Pl69 (.agg Zc69 (ds':=[_,_]) (.e .e1)) I I))<|.p I (.castD (Constraint.enc (⟨0,0,(⟨[(⟨0,1⟩:Term)],3⟩:Row),0,0⟩:Constraint)) I (.build I Pl74 (.agg Zc74 (ds':=[_,_,_,_,_,_]) (.e (.e (.e (.e (.e .e1)))))) I I))<|.p I (.buildSl [_,_] I I E25 I (λ_=>I) I (enc:=Constraint.enc))<|.p I (.castD (Operation.enc (⟨[116,119,111],false,[]⟩:Operation)) I (.build I Pl123 (.agg Zc123 (ds':=[_,_,eA []]) (.e (.e .o1))) I I))<|.p I (.buildSl [_] I I E26 I (λ_=>I) I (enc:=Operation.enc))<|.p I (.castD (Change.enc (⟨0,2⟩:Change)) I (.build I Pl125 (.agg Zc125 (ds':=[_,_]) (.e .e1)) I I))<|.p I (.buildSl [_] I I E56 I (λ_=>I) I (enc:=Change.enc))<|.p I (.castD (Effect.enc (⟨[(⟨0,2⟩:Change)],[],[]⟩:Effect)) I (.build I Pl60 (.agg Zc60 (ds':=[_,eH [],eI []]) (.e (.o .o1))) I I))<|.p I (.castD (Action.enc (⟨0,[],(⟨[(⟨0,2⟩:Change)],[],[]⟩:Effect)⟩:Action)) I (.build I Pl62 (.agg Zc62 (ds':=[_,eA [],_,_,_]) (.e (.o (.e (.e .e1))))) I I))<|.p I (.buildSl [_] I I E27 I (λ_=>I) I (enc:=Action.enc))<|.p I (.castD (Model.enc (⟨[],[(⟨[99],1,[],(⟨0,3⟩:Range),0⟩:Table)],[[99]],[(⟨0,0,(⟨[(⟨0,(-1)⟩:Term)],0⟩:Row),0,0⟩:Constraint),(⟨0,0,(⟨[(⟨0,1⟩:Term)],3⟩:Row),0,0⟩:Constraint)],[(⟨[116,119,111],false,[]⟩:Operation)],[(⟨0,[],(⟨[(⟨0,2⟩:Change)],[],[]⟩:Effect)⟩:Action)],[]⟩:Model)) I (.build I Pl30 (.agg Zc30 (ds':=[eA [],_,_,_,_,_,eG []]) (.o (.e (.e (.e (.e (.e .o1))))))) I I))<|.store I I I I I I (.ofD I) C30 I (yi I)<|.nil<|.K [0] I<|.ret ?_
 cases h
 exact retCell I I Y30 (.v (.v (.v (.v (.v (.v .v1))))))
theorem zd9 (n t0) (t1:Int→Option Bool) (F1:D) (hF1:∀ (q0:Int) (y:Bool),t1 q0=some y→Dyn pg F1 [.int q0] (.bool y)) (r) (h:zP n t0 t1=some r):Pure pg 93 [eA t0,F1] (.int r):=by
 refine Pure.ot Tryz.func93 I Tryz.ntmps93 I λA w=>.sA 1 I<|.seq<|.S 1 I<|.p I (.len I U22 I)<|.A 1 I<|.nil<|.block<|.L [0,1,7] h (λv=>[(8,.d (.int v))]) (λv=>[]) I λ_ x7 h=>.sA 1 I<|.seq<|.condS I h (λh=>?_) λh=>?_
 ·refine .skip<|.seq<|.block<|.sA 2 I<|.S 3 I<|.X h I λx9 h=>.A 1 I<|bK h λx10 q10 h=>.p I (.dyn I I I (hF1 _ _ q10))<|.nil<|.condS I h (λh=>?_) λh=>?_
  ·refine .sA 2 I<|.ret (rO h I)
  ·refine .skip<|.rA 2 I (ndE h I)
 ·refine .exit<|.sA 1 I<|.ret (rO h I)
theorem zai (n t0) (t1:Int→Option Bool) (F1:D) (hF1:∀ (q0:Int) (y:Bool),t1 q0=some y→Dyn pg F1 [.int q0] (.bool y)) (r) (h:zh n t0 t1=some r):Pure pg 42 [eA t0,F1] (.bool r):=by
 refine Pure.ot Tryz.func42 I Tryz.ntmps42 I λA w=>.sA 1 I<|.S 2 I<|.Z h I (zd9 _ _ _ _ hF1) λx1 h=>.A 2 I<|.nil<|.ret (rO h I)
theorem zf9 (n t0 t1 t2 r) (h:zdQ n t0 t1 t2=some r):Pure pg 162 [.int t0,.int t1,.int t2] (.bool r):=by
 refine Pure.ot Tryz.func162 I Tryz.ntmps162 I λA w=>.sA 1 I<|.seq<|.plain 8 I<|.A 4 I<|.jA 3 (decide (t0≤t2)) I (λb1=>?_) ?_
 ·refine .A 3 I<|.nil I
 refine .nil<|.A 1 I<|.nil<|.ret (rO h I)
theorem cells_sized_1_ok (n t0 r) (h:zfv n t0=some r):Pure pg 201 [.int t0] (.bool r):=by
 refine Pure.ot Tryz.func201 I Tryz.ntmps201 I λA w=>.sA 1 I<|.S 1 I<|.Z h I (zf9 _ _ _ _) λx1 h=>.A 2 I<|.nil<|.ret (rO h I)
theorem cells_sized_ok (n t0 r) (h:zfu n t0=some r):Pure pg 160 [eA t0] (.bool r):=by
 refine Pure.ot Tryz.func160 I Tryz.ntmps160 I λA w=>.sA 1 I<|.S 1 I<|.Z h I (zai _ _ _ _ (λq0 y hq=>⟨_,_,I,K201,cells_sized_1_ok _ q0 _ hq⟩)) λx1 h=>.A 2 I<|.nil<|.ret (rO h I)
theorem zeG (n t0 t1 r) (h:zV n t0 t1=some r):Pure pg 239 [eJ t0,.bool t1] (.int r):=by
 refine Pure.ot Tryz.func239 I Tryz.ntmps239 I λA w=>.sA 1 I<|.seq<|.S 1 I<|.p I (.len I U108 I)<|.A 1 I<|.nil<|.block<|.L [0,1,7] h (λv=>[(8,.d (.int v))]) (λv=>[]) I λ_ x5 h=>.sA 1 I<|.seq<|.condS I h (λh=>?_) λh=>?_
 ·refine .skip<|.seq<|.block<|.sA 2 I<|.S 3 I<|.X h I λx7 h=>.A 1 I<|.p I (.beq I U4 I I)<|.nil<|.condS I h (λh=>?_) λh=>?_
  ·refine .sA 2 I<|.ret (rO h I)
  ·refine .skip<|.rA 2 I (ndE h I)
 ·refine .exit<|.sA 1 I<|.ret (rO h I)
theorem zd0 (n t0 t1 r) (h:zbG n t0 t1=some r):Pure pg 200 [eJ t0,.bool t1] (.bool r):=by
 refine Pure.ot Tryz.func200 I Tryz.ntmps200 I λA w=>.sA 1 I<|.S 2 I<|.Z h I (zeG _ _ _) λx1 h=>.A 2 I<|.nil<|.ret (rO h I)
theorem cells_all_ok (n t0 r) (h:zf8 n t0=some r):Pure pg 159 [eJ t0] (.bool r):=by
 refine Pure.ot Tryz.func159 I Tryz.ntmps159 I λA w=>.sA 1 I<|.S 1 I<|.Z h I (zd0 _ _ _) λx1 h=>.A 2 I<|.nil<|.ret (rO h I)
theorem zgI (n t0) (t1:Int→Option Bool) (F1:D) (hF1:∀ (q0:Int) (y:Bool),t1 q0=some y→Dyn pg F1 [.val (.int .i32 q0)] (.bool y)) (r) (h:zeV n t0 t1=some r):Pure pg 290 [.str t0,F1] (eC r):=by
 refine Pure.ot Tryz.func290 I Tryz.ntmps290 I λA w=>.sr<|.p I (.nilS 1 (α:=List UInt8) D.str I)<|.nil<|.seq<|.region ?_
 cases h
theorem ziq (n t0 r) (h:zgK n t0=some r):Pure pg 291 [.val (.int .i32 t0)] (.bool r):=by
 refine Pure.ot Tryz.func291 I Tryz.ntmps291 I λA w=>.sA 1 I<|.seq<|.S 1 I<|.p I (.conv I U21 U237 I)<|.A 1 I<|.nil<|.condS I h (λh=>?_) λh=>?_
 ·refine .seq<|.sA 1 I<|.block<|.J [] h (λv=>[(7,.d (.bool v))]) (λv=>[]) I (λk_2 h=>?_) (λx1 h=>?_)
  ·refine .sA 2 I<|.condS I h (λh=>?_) λh=>?_
   ·refine .skip (ndE h I)
   ·refine .sA 2 I<|.condS I h (λh=>?_) λh=>?_
    ·refine .skip (ndE h I)
    ·refine .sA 2 I<|.condS I h (λh=>?_) λh=>?_
     ·refine .skip (ndE h I)
     ·refine .sA 2 I<|.condS I h (λh=>?_) λh=>?_
      ·refine .skip (ndE h I)
      ·refine .sA 2 I<|.condS I h (λh=>?_) λh=>?_
       ·refine .skip (ndE h I)
       ·refine .sA 2 I<|.K [6,7] I<|.condS I h (λh=>?_) λh=>?_
        ·refine .skip (ndE h I)
        ·refine .sA 2 I<|.condS I h (λh=>?_) λh=>?_
         ·refine .skip (ndE h I)
         ·refine .rA 2 I (ndE h I)
  ·refine .condS I h (λh=>?_) λh=>?_
   ·refine .sA 1 I<|.K [2] I<|.ret (rO h I)
   ·refine .skip<|.K [] I<|.sA 1 I<|.ret (rO h I)
 ·refine .skip<|.seq<|.region ?_
  cases h
theorem strings_Fields_ok (n t0 r) (h:zaY n t0=some r):Pure pg 285 [.str t0] (eC r):=by
 refine Pure.ot Tryz.func285 I Tryz.ntmps285 I λA w=>.sr<|.p I (.nilS 1 (α:=List UInt8) D.str I)<|.nil<|.sA 1 I<|.sA 1 I<|.sA 1 I<|.seq<|.sA 1 I<|.block<|.L [0] h (λv=>[(3,.d (.int v.1)),(4,.d (.int v.2.1)),(5,.d (.val (.int .u8 v.2.2.1))),(6,.d (.int v.2.2.2))]) (λv=>[]) I λ_ ⟨x13,x14,x15,x16⟩ h=>.seq<|.S 2 I<|.p I (.len_str I U9 I)<|.A 1 I<|.nil<|.K [0,3,4,5,6,16] I<|.condS I h (λh=>?_) λh=>?_
 ·refine .skip<|.seq<|.block<|.S 2 I<|bK h λx18 q18 h=>.p I (.sidx I I I U9 q18)<|.A 1 I<|.nil<|.S 2 I<|.p I (.bor I I I)<|.A 1 I<|.nil<|.S 1 I<|bK h λx19 q19 h=>.p I (.idxG (l:=tab8) I I I gm8 U288 S5 tl8 q19)<|.A 1 I<|.p I (.conv I U5 U3 I)<|.A 1 I<|.nil<|.S 3 I<|.p I (.bnot I I)<|.p I (.band I I I)<|.A 2 I<|.nil<|.K [0,3,5,6,8] I<|.rA 2 I<|.rA 3 I (ndE h I)
 ·refine .exit<|.seq<|.sA 2 I<|.condS I h (λh=>?_) λh=>?_
  ·refine .S 1 I<|.Z h I (zgI _ _ _ _ (λq0 y hq=>⟨_,_,I,K291,ziq _ q0 _ hq⟩)) λx20 h=>.A 1 I<|.nil<|.ret ?_
   cases h
   exact zaH I (.d _)
  ·refine .skip<|.S 1 I<|bK h λx21 q21 h=>.makeVec (enc:=D.str) (z:=([]:List UInt8)) I I I I E24 I I I (.val Zv9) q21<|.A 1 I<|.nil<|.sA 1 I<|.sA 1 I<|.sA 1 I<|.seq<|.block<|.L [0,9,10] h (λv=>[(12,.d (.int v))]) (λv=>[]) I λ_ x30 h=>.seq<|.seq<|.plain 12 I<|.A 2 I<|.p I (.len_str I U9 I)<|.A 2 I<|gK h λc33 h=>gK h λc34 h=>.jA 6 (((idx tab8 ((sidx t0 x30).getD default)).getD default) != 0) I (λb32=>?_) ?_
   ·refine .A 2 I<|.q I (.sidx I I I U9 (someD (impT c33 b32)))<|.q I (.idxG (l:=tab8) I I I gm8 U288 S5 tl8 (someD (impT c34 b32)))<|.A 2 I<|.nil I
   refine .nil<|.nil<|.K [0,9,10,12,53] I<|.condS I h (λh=>?_) λh=>?_
   ·refine .skip<|.block<|.rA 3 I (ndE h I)
   ·refine .exit<|.sA 2 I<|.seq<|.block<|.L [0] h (λv=>[(9,.vec 0 (List.length v.1)),(10,.d (.int v.2.1)),(11,.d (.int v.2.2.1)),(12,.d (.int v.2.2.2))]) (λv=>[(0,.vec 9 1 (List.map D.str v.1))]) I λ_ ⟨b0_79,x80,x81,x82⟩ h=>.seq<|.S 2 I<|.p I (.len_str I U9 I)<|.A 1 I<|.nil<|.K [0,9,10,11,12,60] I<|.condS I h (λh=>?_) λh=>?_
    ·refine .skip<|.block<|.seq<|.S 2 I<|bK h λx84 q84 h=>.p I (.sidx I I I U9 q84)<|bK h λx85 q85 h=>.p I (.idxG (l:=tab8) I I I gm8 U288 S5 tl8 q85)<|.A 2 I<|.nil<|.condS I h (λh=>?_) λh=>?_
     ·refine .sA 3 I<|.exit (ndE h I)
     ·refine .skip<|.S 5 I<|bK h λx86 q86 h=>.p I (.cutStrLH I I I I U9 q86)<|bK h λx87 q87 h=>.p I (.idxV I I I I I U24 S9 q87)<|bK h λb0_88 hb0_88 h=>.storeEl (enc:=D.str) I I I I I I I I I C9 hb0_88<|.relen 9 I (zdo hb0_88)<|.relen 69 I (zdo hb0_88)<|.nil<|.sA 3 I<|.K [0,9,10,12] I<|.sA 3 I<|.seq<|.block<|.L [0,9,10] h (λv=>[(12,.d (.int v))]) (λv=>[]) I λ_ x97 h=>.seq<|.seq<|.plain 12 I<|.A 2 I<|.p I (.len_str I U9 I)<|.A 2 I<|gK h λc100 h=>gK h λc101 h=>.jA 6 (((idx tab8 ((sidx t0 x97).getD default)).getD default) != 0) I (λb99=>?_) ?_
      ·refine .A 2 I<|.q I (.sidx I I I U9 (someD (impT c100 b99)))<|.q I (.idxG (l:=tab8) I I I gm8 U288 S5 tl8 (someD (impT c101 b99)))<|.A 2 I<|.nil I
      refine .nil<|.nil<|.K [0,9,10,12,91] I<|.condS I h (λh=>?_) λh=>?_
      ·refine .skip<|.block<|.rA 3 I (ndE h I)
      ·refine .exit<|.rA 2 I (ndE h I)
    ·refine .exit<|.J [] h (λv=>[(9,.vec 0 (List.length v))]) (λv=>[(0,.vec 9 1 (List.map D.str v))]) I (λk_103 h=>?_) (λb0_102 h=>?_)
     ·refine .S 2 I<|.p I (.len_str I U9 I)<|.A 1 I<|.nil<|.condS I h (λh=>?_) λh=>?_
      ·refine .region<|.A 4 I<|bK h λx104 q104 h=>.p I (.cutStrL I I I U9 q104)<|bK h λx105 q105 h=>.p I (.idxV I I I I I U24 S9 q105)<|bK h λb0_106 hb0_106 h=>.storeEl (enc:=D.str) I I I I I I I I I C9 hb0_106<|.relen 9 I (zdo hb0_106)<|.relen 99 I (zdo hb0_106)<|.nil (ndE h I)
      ·refine .skip (ndE h I)
     ·refine .sA 2 I<|.K [2] I<|.ret ?_
      cases h
      exact zaH I (.vec I (by simp))
theorem ziF (n r) (h:zbs n=some r):Pure pg 267 [] (GMap.dat (λl:List UInt8=>Value.string ⟨l.toArray⟩) D.bool r):=by
 refine Pure.ot Tryz.func267 I Tryz.ntmps267 I λA w=>.sA 1 I<|.sr<|.makeMap (λl:List UInt8=>Value.string ⟨l.toArray⟩) D.bool I I I I<|.A 1 I<|.nil<|.seq<|.sr<|.Z h I (strings_Fields_ok _ _) λx1 h=>.p I (.len I U24 I)<|.A 1 I<|.nil<|.block<|.L [1,5,6] h (λv=>[(7,.d (.int v.2))]) (λv=>[(0,GMap.blk (λl:List UInt8=>Value.string ⟨l.toArray⟩) D.bool v.1)]) I λ_ ⟨m0_8,x9⟩ h=>.sA 1 I<|.K [1,5,6,7,8] I<|.seq<|.condS I h (λh=>?_) λh=>?_
 ·refine .skip<|.seq<|.block<|.sr<|.X h I λx11 h=>.A 2 I<|.nil<|.region<|.A 2 I<|.mapPut (k:=x11) (v:=true) I I I U188 KT9 I I I I<|.nil<|.rA 2 I (ndE h I)
 ·refine .exit<|.sA 2 I<|.ret ?_
  cases h
  exact zaH I (.mp I (GMap.wfm _))
theorem zg9 (n t0 r) (h:zbP n t0=some r):Pure pg 275 [.val (.int .u8 t0)] (.bool r):=by
 refine Pure.ot Tryz.func275 I Tryz.ntmps275 I λA w=>.sA 1 I<|.seq<|.plain 14 I<|.A 3 I<|.jO 2 (t0==9) I (λb1=>?_) ?_
 ·refine .A 2 I<|.nil I
 refine .A 1 I<|.jO 2 (t0==10) I (λb2=>?_) ?_
 ·refine .A 2 I<|.nil I
 refine .A 1 I<|.jO 2 (t0==13) I (λb3=>?_) ?_
 ·refine .A 2 I<|.nil I
 refine .nil<|.A 1 I<|.nil<|.K [2] I<|.ret (rO h I)
theorem zgg (n t0) (t1:Int→Option Bool) (F1:D) (hF1:∀ (q0:Int) (y:Bool),t1 q0=some y→Dyn pg F1 [.val (.int .u8 q0)] (.bool y)) (r) (h:zcq n t0 t1=some r):Pure pg 271 [.str t0,F1] (.int r):=by
 refine Pure.ot Tryz.func271 I Tryz.ntmps271 I λA w=>.sA 1 I<|.sA 1 I<|.seq<|.block<|.L [0,1] h (λv=>[(5,.d (.int v))]) (λv=>[]) I λ_ x9 h=>.seq<|.seq<|.plain 11 I<|.A 2 I<|.p I (.len_str I U9 I)<|.A 2 I<|gK h λc12 h=>gK h λc13 h=>.jA 5 (((t1 ((sidx t0 x9).getD default)).getD default)) I (λb11=>?_) ?_
 ·refine .A 3 I<|.q I (.sidx I I I U9 (someD (impT c12 b11)))<|.q I (.dyn I I I (hF1 _ _ (someD (impT c13 b11))))<|.nil I
 refine .nil<|.nil<|.K [0,1,5,16] I<|.condS I h (λh=>?_) λh=>?_
 ·refine .skip<|.block<|.rA 3 I (ndE h I)
 ·refine .exit<|.sA 2 I<|.ret (rO h I)
theorem lexer_skip_1_ok (n t0 r) (h:zgh n t0=some r):Pure pg 286 [.val (.int .u8 t0)] (.bool r):=by
 refine Pure.ot Tryz.func286 I Tryz.ntmps286 I λA w=>.sA 1 I<|.sA 3 I<|.ret (rO h I)
theorem lexer_skip_ok (n t0 r) (h:zcE n t0=some r):Pure pg 269 [.str t0] (.int r):=by
 refine Pure.ot Tryz.func269 I Tryz.ntmps269 I λA w=>.sA 1 I<|.sA 1 I<|.seq<|.block<|.L [0] h (λv=>[(3,.d (.int v))]) (λv=>[]) I λ_ x13 h=>.seq<|.S 2 I<|.p I (.len_str I U9 I)<|.A 1 I<|.nil<|.K [0,3,7] I<|.condS I h (λh=>?_) λh=>?_
 ·refine .skip<|.block<|.block<|.S 2 I<|bK h λx15 q15 h=>.p I (.sidx I I I U9 q15)<|.Z h I (zg9 _ _) λx16 h=>.A 1 I<|.nil<|.condS I h (λh=>?_) λh=>?_
  ·refine .rA 3 I (ndE h I)
  ·refine .S 2 I<|bK h λx17 q17 h=>.p I (.sidx I I I U9 q17)<|.A 2 I<|.nil<|.condS I h (λh=>?_) λh=>?_
   ·refine .region<|.A 3 I<|bK h λx18 q18 h=>.p I (.cutStrL I I I U9 q18)<|.Z h I (zgg _ _ _ _ (λq0 y hq=>⟨_,_,I,K286,lexer_skip_1_ok _ q0 _ hq⟩)) λx19 h=>.A 2 I<|.nil (ndE h I)
   ·refine .sA 2 I<|.ret (rO h I)
 ·refine .exit<|.sA 2 I<|.ret (rO h I)
theorem zek (n t0 r) (h:zcp n t0=some r):Pure pg 270 [.val (.int .u8 t0)] (.bool r):=by
 refine Pure.ot Tryz.func270 I Tryz.ntmps270 I λA w=>.sA 1 I<|.seq<|.plain 6 I<|.A 3 I<|.jA 2 (decide (t0≤122)) I (λb1=>?_) ?_
 ·refine .A 2 I<|.nil I
 refine .nil<|.A 1 I<|.nil<|.ret (rO h I)
theorem zdH (n t0 r) (h:zbd n t0=some r):Pure pg 273 [.val (.int .u8 t0)] (.bool r):=by
 refine Pure.ot Tryz.func273 I Tryz.ntmps273 I λA w=>.sA 1 I<|.seq<|.plain 6 I<|.A 3 I<|.jA 2 (decide (t0≤57)) I (λb1=>?_) ?_
 ·refine .A 2 I<|.nil I
 refine .nil<|.A 1 I<|.nil<|.ret (rO h I)
theorem lexer_part_ok (n t0 r) (h:ziG n t0=some r):Pure pg 272 [.val (.int .u8 t0)] (.bool r):=by
 refine Pure.ot Tryz.func272 I Tryz.ntmps272 I λA w=>.sA 1 I<|.seq<|.plain 10 I<|.A 1 I<|.Z h I (zek _ _) λx1 h=>.A 1 I<|gK h λc3 h=>.jO 2 (((zbd n t0).getD default)) I (λb2=>?_) ?_
 ·refine .A 1 I<|.q I (.call I (kC I) I (zdH _ _ _ (someD (impF c3 b2))))<|.nil I
 refine .A 1 I<|.jO 2 (t0==95) I (λb4=>?_) ?_
 ·refine .A 2 I<|.nil I
 refine .nil<|.A 1 I<|.nil<|.ret (rO h I)
theorem zc8 (n t0 t1 r) (h:zbh n t0 t1=some r):Pure pg 292 [.str t0,.str t1] (.bool r):=by
 refine Pure.ot Tryz.func292 I Tryz.ntmps292 I λA w=>.sA 1 I<|.seq<|.plain 13 I<|.A 1 I<|.p I (.len_str I U9 I)<|.A 1 I<|.p I (.len_str I U9 I)<|.A 2 I<|gK h λc2 h=>.jA 6 (decide (((cut t0 0 (t1.length:Int)).getD default)=t1)) I (λb1=>?_) ?_
 ·refine .A 2 I<|.q I (.len_str I U9 I)<|.q I (.cutStrH I I I U9 (someD (impT c2 b1)))<|.A 1 I<|.q I (.str_eql I I I)<|.nil I
 refine .nil<|.A 1 I<|.nil<|.ret (rO h I)
theorem zg1 (n t0 t1 r) (h:zcI n t0 t1=some r):Pure pg 287 [.str t0,.str t1] (.bool r):=by
 refine Pure.ot Tryz.func287 I Tryz.ntmps287 I λA w=>.sA 1 I<|.S 2 I<|.Z h I (zc8 _ _ _) λx1 h=>.A 1 I<|.nil<|.ret (rO h I)
theorem zc9 (n t0 t1 r) (h:zbi n t0 t1=some r):Pure pg 178 [.str t0,.val (.int .u8 t1)] (.int r):=by
 refine Pure.ot Tryz.func178 I Tryz.ntmps178 I λA w=>.sA 1 I<|.S 2 I<|.p I (.idxByte I IB213 I I)<|.A 1 I<|.nil<|.ret (rO h I)
theorem zg2 (n t0 t1 r) (h:zb2 n t0 t1=some r):Pure pg 288 [.str t0,.val (.int .u8 t1)] (.int r):=by
 refine Pure.ot Tryz.func288 I Tryz.ntmps288 I λA w=>.sA 1 I<|.S 2 I<|.Z h I (zc9 _ _ _) λx1 h=>.A 1 I<|.nil<|.ret (rO h I)
theorem zel (n t0 r) (h:za6 n t0=some r):Pure pg 274 [.str t0] (.int r):=by
 refine Pure.ot Tryz.func274 I Tryz.ntmps274 I λA w=>.sA 1 I<|.seq<|.sr<|.p I (.buildSl [_,_,_,_,_] I I E24 I (λ_=>I) I (enc:=D.str))<|.p I (.len I U24 I)<|.A 1 I<|.nil<|.block<|.L [0,5,6] h (λv=>[(7,.d (.int v))]) (λv=>[]) I λ_ x7 h=>.sA 1 I<|.seq<|.condS I h (λh=>?_) λh=>?_
 ·refine .skip<|.seq<|.block<|.sr<|.X h I λx9 h=>.A 2 I<|.nil<|.S 2 I<|.Z h I (zg1 _ _ _) λx10 h=>.nil<|.condS I h (λh=>?_) λh=>?_
  ·refine .sA 1 I<|.ret (rO h I)
  ·refine .skip<|.rA 2 I (ndE h I)
 ·refine .exit<|.seq<|.seq<|.plain 8 I<|.A 1 I<|.p I (.str_neq I I I)<|.A 1 I<|gK h λc12 h=>gK h λc13 h=>.jA 4 (decide (0≤((zb2 n [60,62,61,43,45,42,40,41,123,125,44,58,59] ((sidx t0 0).getD default)).getD default))) I (λb11=>?_) ?_
  ·refine .A 1 I<|.q I (.sidx I I I U9 (someD (impT c12 b11)))<|.q I (.call I (kC I) I (zg2 _ _ _ _ (someD (impT c13 b11))))<|.A 1 I<|.nil I
  refine .nil<|.nil<|.condS I h (λh=>?_) λh=>?_
  ·refine .sA 1 I<|.ret (rO h I)
  ·refine .skip<|.sA 1 I<|.ret (rO h I)
theorem lexer_begins_ok (n t0 r) (h:zcZ n t0=some r):Pure pg 276 [.str t0] (.bool r):=by
 refine Pure.ot Tryz.func276 I Tryz.ntmps276 I λA w=>.sA 1 I<|.seq<|.plain 13 I<|.A 1 I<|bK h λx1 q1 h=>.p I (.sidx I I I U9 q1)<|.Z h I (zek _ _) λx2 h=>.A 1 I<|gK h λc4 h=>gK h λc5 h=>.jO 3 (((zbd n ((sidx t0 0).getD default)).getD default)) I (λb3=>?_) ?_
 ·refine .A 1 I<|.q I (.sidx I I I U9 (someD (impF c4 b3)))<|.q I (.call I (kC I) I (zdH _ _ _ (someD (impF c5 b3))))<|.nil I
 refine .A 1 I<|gK h λc7 h=>.jO 3 (decide (0<((za6 n t0).getD default))) I (λb6=>?_) ?_
 ·refine .A 1 I<|.q I (.call I (kC I) I (zel _ _ _ (someD (impF c7 b6))))<|.A 1 I<|.nil I
 refine .nil<|.A 1 I<|.nil<|.ret (rO h I)
theorem zhW (n:Nat) (t1:List UInt8) (t2:GMap (List UInt8) Bool) (F0:D) (C:Ctx) (hC:C.n=93) (hG:C.gn=0) (Q0:Exit→St→Prop) (r:Token) (h:zas n t1 t2=some r)
  (hY:∀ (Q:Exit→St→Prop) (T:List (Nat×V)) (H:List Blk) (j:Nat),look 0 T=some (.d F0)→look 5 T=some (.loc j 0)→H[j]? = some (.box 227 (V.cellsV (.d (Token.enc r))))→Tri pg C tokX Q ⟨T,H⟩) :
  Tri pg C (bodyOf pg 268) Q0 ⟨params 0 [F0,.ref (.str t1),.ref (GMap.dat (λl:List UInt8=>Value.string ⟨l.toArray⟩) D.bool t2)],[]⟩:=by
 obtain ⟨A0,own0,w0,n0,esc,gh,gn⟩:=C
 simp only at hC hG
 subst hC
 subst hG
 rw [ze7 Tryz.func268 I]
 refine .sA 1 I<|.block<|.L [0,1,2,4] h (λv=>[]) (λv=>[]) I λ_ v h=>.block<|.S 4 I<|bK h λx45 q45 h=>.p I (.cutStrL I I I U9 q45)<|.Z h I (lexer_skip_ok _ _) λx46 h=>.A 1 I<|.p I (.castD (Token.enc (⟨0,0,add64 0 x46,0⟩:Token)) I (.build I Pl227 (.agg Zc227 (ds':=[_,_,_,_]) (.e (.e (.e .e1)))) I I))<|.allocZ I I I I (.agg Zc227 (ds':=[.int 0,.int 0,.int 0,.int 0]) (.e (.e (.e .e1)))) I<|.store I I I I I I (.ofD I) C227 I (yi I)<|.nil<|.K [0,1,2,5] I<|.S 1 I<|.p I (.fieldAddrLoc I I I F227_2)<|.p I (.loadLoc1 I I I Y3 I)<|bK h λx47 q47 h=>.p I (.cutStrL I I I U9 q47)<|.A 1 I<|.nil<|.sA 1 I<|.J [0,1,2,5] h (λv=>[(7,.d (.int v.2))]) (λv=>[(0,.box 227 [.d (.int v.1),.d (.int 0),.d (.int (add64 0 x46)),.d (.int 0)])]) I (λk_50 h=>?_) (λv h=>?_)
 ·refine .block<|.S 1 I<|.p I (.str_eql I I I)<|.A 1 I<|.nil<|.condS I h (λh=>?_) λh=>?_
  ·refine .skip (ndE h I)
  ·refine .S 1 I<|bK h λx51 q51 h=>.p I (.sidx I I I U9 q51)<|.Z h I (zek _ _) λx52 h=>.A 1 I<|.nil<|.condS I h (λh=>?_) λh=>?_
   ·refine .S 1 I<|.Z h I (zgg _ _ _ _ (λq0 y hq=>⟨_,_,I,K272,lexer_part_ok _ q0 _ hq⟩)) λx53 h=>.A 1 I<|.p I (.fieldAddrLoc I I I F227_0)<|.store I I I I I I (.ofD I) C3 I (yi I)<|.nil<|.K [0,1,2,5,6,7] I<|.seq<|.draw 5 Hm (by kernel_rfl) (by kernel_rfl)<|.A 3 I<|bK h λx54 q54 h=>.p I (.cutStrH I I I U9 q54)<|.p I (.mapGetD (ke:=(λl:List UInt8=>Value.string ⟨l.toArray⟩)) (ve:=D.bool) I U188 KT9 I I (z:=(false:Bool)) (.val Zv4))<|.nil<|.nil<|.condS I h (λh=>?_) λh=>?_
    ·refine .region<|.p I (.fieldAddrLoc I I I F227_0)<|.store I I I I I I (.ofD I) C3 I (yi I)<|.nil (ndE h I)
    ·refine .skip (ndE h I)
   ·refine .S 1 I<|bK h λx55 q55 h=>.p I (.sidx I I I U9 q55)<|.Z h I (zdH _ _) λx56 h=>.A 1 I<|.nil<|.K [0,1,2,5,6,63] I<|.condS I h (λh=>?_) λh=>?_
    ·refine .region<|.A 1 I<|.Z h I (zgg _ _ _ _ (λq0 y hq=>⟨_,_,I,K273,zdH _ q0 _ hq⟩)) λx57 h=>.A 1 I<|.p I (.fieldAddrLoc I I I F227_0)<|.store I I I I I I (.ofD I) C3 I (yi I)<|.nil (ndE h I)
    ·refine .S 1 I<|.Z h I (zel _ _) λx58 h=>.A 2 I<|.nil<|.condS I h (λh=>?_) λh=>?_
     ·refine .region<|.A 1 I<|.Z h I (zel _ _) λx59 h=>.A 1 I<|.p I (.fieldAddrLoc I I I F227_0)<|.store I I I I I I (.ofD I) C3 I (yi I)<|.nil (ndE h I)
     ·refine .sr<|.p I (.fieldAddrLoc I I I F227_0)<|.store I I I I I I (.ofD I) C3 I (yi I)<|.nil<|.sA 1 I<|.block<|.L [0,1,2,5,6] h (λv=>[(7,.d (.int v))]) (λv=>[]) I λ_ x78 h=>.seq<|.seq<|.plain 24 I<|.A 2 I<|.p I (.len_str I U9 I)<|.A 2 I<|gK h λc81 h=>gK h λc82 h=>.jA 5 (!((zbP n ((sidx x47 x78).getD default)).getD default)) I (λb80=>?_) ?_
      ·refine .A 2 I<|.q I (.sidx I I I U9 (someD (impT c81 b80)))<|.q I (.call I (kC I) I (zg9 _ _ _ (someD (impT c82 b80))))<|.A 1 I<|.nil I
      refine .A 1 I<|gK h λc84 h=>.jA 4 (((sidx x47 x78).getD default) != 35) I (λb83=>?_) ?_
      ·refine .A 2 I<|.q I (.sidx I I I U9 (someD (impT c84 b83)))<|.A 1 I<|.nil I
      refine .A 1 I<|gK h λc86 h=>gK h λc87 h=>.jA 5 (!((zcZ n ((cut x47 x78 (x47.length:Int)).getD default)).getD default)) I (λb85=>?_) ?_
      ·refine .A 2 I<|.q I (.cutStrL I I I U9 (someD (impT c86 b85)))<|.q I (.call I (kC I) I (lexer_begins_ok _ _ _ (someD (impT c87 b85))))<|.A 1 I<|.nil I
      refine .nil<|.nil<|.K [0,1,2,5,6,7,44] I<|.condS I h (λh=>?_) λh=>?_
      ·refine .skip<|.seq<|.block<|.skip<|.rA 3 I (ndE h I)
      ·refine .exit (ndE h I)
 ·obtain ⟨c0_0_48,x49⟩:=v
  refine .sr<|.p I (.fieldAddrLoc I I I F227_2)<|.p I (.loadLoc1 I I I Y3 I)<|.A 2 I<|.p I (.fieldAddrLoc I I I F227_3)<|.store I I I I I I (.ofD I) C3 I (yi I)<|.nil<|.K [0,1,2,5] I<|.sr<|.p I (.fieldAddrLoc I I I F227_3)<|.p I (.loadLoc1 I I I Y3 I)<|.A 1 I<|.nil ?_
  cases h
  refine hY _ _ _ 0 ?_ ?_ ?_
  all_goals rfl
end
end Go.Proofs.YtbnhmfnagdgcmaaGreatDoor
