/- Part of the proof of one law of the seat. -/
import Derived.Test.YtipkniadbkndfaaGreatDoorDc01
import Derived.Laws.StructEq
import Derived.Laws.MakeOwn
import Derived.Maps.RangeRun
import Derived.MapKept
import Derived.RangeFuncRecord
import Derived.RangeFuncLeaves
import Derived.RangeFuncCalls
import Derived.TacticsIn
import Derived.Laws.CopyRow
import Derived.Lib.SliceRun
import Derived.Laws.Externs
import Derived.Lib.Bytealg
import Derived.WideKeyRuns
import Derived.ArgAppend
import Derived.OrdersIn
import Derived.RangeFuncIn
import Derived.Sort.Defs
import Derived.Lib.BitFns
import Derived.Sort.AssemblyPlain
import Derived.Shelf.SlSortCmp.Insertion
set_option linter.unusedVariables false
set_option linter.unusedSectionVars false
set_option linter.unusedSimpArgs false
set_option maxRecDepth 100000
set_option maxHeartbeats 40000000
namespace Go.Proofs.YtipkniadbkndfaaGreatDoor
open Go Go.RowKit
abbrev ya:=@_root_.Option.bind_some
abbrev ye:=@_root_.Bool.false_eq_true
abbrev yg:=@_root_.decide_eq_true_eq
abbrev yi:=@_root_.Option.getD_some
abbrev ym:=@_root_.List.getElem_mem
abbrev yH:=@_root_.decide_eq_false_iff_not
abbrev yK:=@_root_.Bool.or_eq_true
abbrev yX:=@_root_.List.mem_cons_of_mem
abbrev ul:=@_root_.Bool.and_true
abbrev uv:=@_root_.Int.natCast_mul
abbrev uy:=@_root_.Bool.and_eq_false_iff
abbrev uA:=@_root_.List.length_singleton
abbrev uD:=@_root_.List.any_eq_true
abbrev uH:=@_root_.List.getElem?_cons_succ
abbrev uM:=@_root_.List.mem_cons_self
abbrev uV:=@_root_.List.nodup_append
section
variable [ztS] [Drw]
inductive zxJ (T:List (Nat×V)) (H:List Blk) (ids:List Nat):List (Nat×D)→Prop
 | nil:zxJ T H ids []
 | cons {t:Nat} {v:V} {d:D} {r:List (Nat×D)}:look t T=some v→FrzI H ids v d→zxJ T H ids r→zxJ T H ids ((t,d)::r)
def frzT:List (Nat×D)→List (Nat×V)→List (Nat×V)
 | [],T=>T
 | (t,d)::r,T=>(t,.d d)::frzT r T
theorem R.zud {C bs T H a w} (h:R C bs ⟨T,H⟩ a w) {ids}:∀ {ds},zxJ T H ids ds →
  R C (zof ids bs) ⟨frzT ds T,Go.Proofs.YtipkniadbkndfaaGreatDoor.zvM ids H⟩ a w
 | _,.nil=>R.zvM ids h
 | _,.cons (t:=t) (v:=v) (d:=d) m n r=>by
  have o:=R.zud h r;obtain ⟨k,l⟩:=h.tmp t v m;refine o.know k ?_;have e:∀ b,Own C.A0 (zof ids bs) b→Own C.A0 bs b:=λb c=>c.imp id λc=>by
   obtain ⟨i,f⟩:=List.getElem?_of_mem c;exact yx (zjK ids bs i b f).2
  refine FrzI.rep h.mem (λb _ c=>e b c) (λi b p f c=>?_) n _ l;rcases c with c | c
  ·exact h.own.not b (yx f) c
  ·obtain ⟨j,q⟩:=List.getElem?_of_mem c;obtain ⟨s,g⟩:=zjK ids bs j b q;have:=h.own.apart i j b f g
   grind
theorem Tri.zud {P C c Q T H} (ids) {ds} (hf:zxJ T H ids ds) (k:Tri P C c Q ⟨frzT ds T,zvM ids H⟩):Tri P C c Q ⟨T,H⟩:=⟨λ_ a w b=>k.run _ a w (b.zud hf)⟩
theorem TriL.zud {P C ops rest Q T H} (ids) {ds} (hf:zxJ T H ids ds) (k:TriL P C ops rest Q ⟨frzT ds T,zvM ids H⟩):TriL P C ops rest Q ⟨T,H⟩:=⟨λ_ a w b=>k.run _ a w (b.zud hf)⟩
theorem zwd.ofD {H d} (h:d.ones=true):zwd H (V.zuB (.d d)):=by
 have a:∀ ds:List D,(ds.all D.one)=true→zwd H (ds.map .d):=by
  intro ds
  induction ds with
  | nil=>exact λ_=>.nil
  | cons x xs ih=>intro h;simp only [uj,yd] at h;exact .cons (.d h.1) (ih h.2)
 cases d with
 | agg ds=>exact a ds h
 | val v=>
  cases v <;> first | exact .cons (.d h) .nil | grind [D.ones,D.one]
 | _=>first | exact .cons (.d h) .nil | grind
theorem zv0.cells {P t d} (hz:zv0 P t d) (h1:d.ones=true):∃ z,zbC P t=some z∧∀ A w bs H,V.reps A w bs H (V.zuB (.d d)) z.cells.toList:=by
 obtain ⟨z,h,a⟩:=hz.out
 grind [V.zww,V.rep,zwd.ofD]
theorem R.reblk {C bs T H a w i t cs cs'} (h:R C bs ⟨T,H⟩ a w) (hi:H[i]? = some (.box t cs)) (hr:∀ A bs H vs,V.reps A w bs H cs vs→V.reps A w bs H cs' vs):R C bs ⟨T,H.set i (.box t cs')⟩ a w:=by
 have f:=h.blk i _ hi;obtain ⟨b,vs,n,o,d⟩:=f;have m:bs.set i (some b)=bs:=by
  refine ud λj=>?_
  grind
 have e:Fr (λc=>some b=some c) w w:=Fr.refl _ w;have g:∀ c,some b=some c→Own C.A0 bs c:=λc k=>.inr (by grind)
 have l:=R.upd (y:=.box t cs') (c':=some b) h hi n (by simp [Compat]) e (.inl rfl) (by
  refine ⟨b,vs,by grind,o,?_⟩;have:=V.zvh (x:=.box t cs) (y:=.box t cs') (c:=some b) (c':=some b) (A':=Own C.A0 (bs.set i (some b))) hi n (by simp [Compat]) h.own.apart e g (λc k=>k) (λc _ k=>by grind) cs vs.toList d
  grind)
 grind
theorem zmw {P t d} (hz:zv0 P t d) (h1:d.ones=true) {A w bs H vs} (h:V.reps A w bs H (zeroCells P t) vs):V.reps A w bs H (V.zuB (.d d)) vs:=by
 obtain ⟨z,c,e⟩:=hz.cells h1;unfold zeroCells at h;have a:∀ (l vs:List Value),V.reps A w bs H (l.map λv=>.d (.val v)) vs→vs=l:=by
  intro l
  induction l with
  | nil=>grind [V.reps]
  | cons x l ih=>
   intro vs h;obtain ⟨v,b,rfl,h1,f⟩:=h
   grind [zr]
 grind
theorem TriL.rezero {P C ops rest Q T H} (i) {t d} (hi:H[i]? = some (.box t (zeroCells P t))) (hz:zv0 P t d) (h1:d.ones=true)
  (k:TriL P C ops rest Q ⟨T,H.set i (.box t (V.zuB (.d d)))⟩):TriL P C ops rest Q ⟨T,H⟩:=⟨λ_ a w b=>k.run _ a w (b.reblk hi λ_ _ _ _ h=>zmw hz h1 h)⟩
theorem TriL.zua {P} {C} {ops} {o:Oper} {rest} {Q} {T} {H} {t} {r:Nat} {d}
  (hg:o.guard=none) (ho:o.op = .alloc t) (hd:o.dst=some r) (hn:Nat.blt r C.n=true) (hz:zv0 P t d) (h1:d.ones=true)
  (k:TriL P C ops rest Q ⟨(r,.loc H.length 0)::T,H++[.box t (V.zuB (.d d))]⟩):TriL P C ops (o::rest) Q ⟨T,H⟩:=by
 obtain ⟨z,a,_⟩:=hz.out;refine TriL.alloc hg ho hd hn a ?_;refine TriL.rezero H.length (d:=d) (t:=t) (by
  grind [zeroCells]) hz h1 ?_
 grind
def D.scal:D→Bool
 | .val _=>true
 | .agg cs=>D.scals cs
 | .tup cs=>D.scals cs
 | _=>false
where D.scals:List D→Bool
 | []=>true
 | d::ds=>D.scal d&&D.scals ds
mutual
theorem D.zwt {A A' w w'}:∀ {d:D},d.scal=true→∀ {v:Value},d.rep A w v→d.rep A' w' v
 | .val x,_,v,h=>by simpa only [D.rep] using h
 | .agg cs,hs,v,h=>by
  simp only [D.rep] at h ⊢;obtain ⟨vs,e,hr⟩:=h;exact ⟨vs,e,D.zwi (by simpa [D.scal] using hs) hr⟩
 | .tup cs,hs,v,h=>by
  simp only [D.rep] at h ⊢;obtain ⟨vs,e,hr⟩:=h;exact ⟨vs,e,D.zwi (by simpa [D.scal] using hs) hr⟩
 | .sl _ _,hs,_,_=>by simp [D.scal] at hs
 | .ref _,hs,_,_=>by simp [D.scal] at hs
 | .fn _ _ _,hs,_,_=>by simp [D.scal] at hs
 | .mp _ _,hs,_,_=>by simp [D.scal] at hs
 | .err,hs,_,_=>by simp [D.scal] at hs
 | .osl _ _,hs,_,_=>by simp [D.scal] at hs
theorem D.zwi {A A' w w'}:∀ {ds:List D},D.scal.D.scals ds=true→∀ {vs:List Value},D.reps A w ds vs→D.reps A' w' ds vs
 | [],_,vs,h=>by simpa only [D.reps] using h
 | d::ds,hs,vs,h=>by
  simp only [D.scal.D.scals,yd] at hs;simp only [D.reps] at h ⊢;obtain ⟨v,vs',e,h1,h2⟩:=h;exact ⟨v,vs',e,D.zwt hs.1 h1,D.zwi hs.2 h2⟩
end
section
variable {P:Program} {o:Oper} {e:Operand→Option V} {H:List Blk}
inductive Lent (e:Operand→Option V) (H:List Blk):List Operand→List D→Prop
 | nil:Lent e H [] []
 | cons {x:Operand} {v:V} {d:D} {xs:List Operand} {ds:List D}:e x=some v→Frz H v d→Lent e H xs ds→Lent e H (x::xs) (d::ds)
theorem Lent.reps {A0 bs w} (m:Mem A0 bs H w) {f}:∀ {xs} {ds},Lent e H xs ds→(∀ x∈xs,∀ y,e x=some y→V.rep (Own A0 bs) w bs H y (f x))→D.reps A0 w ds (xs.map f)
 | _,_,.nil,_=>by simp [D.reps]
 | _,_,.cons d c r,a=>by
  exact ⟨_,_,rfl,Frz.rep m c _ (a _ (by simp) _ d),r.reps m λy b=>a y (by simp [b])⟩
theorem OpV.zwW {f args tys xs y} (ho:o.op = .call { callee:=.value (.func f),args:=args,argTypes:=tys }) (hc:ztT P f=true)
  (ha:Lent e H args.toList xs) (hy:y.scal=true) (hp:Pure P f xs y):OpV P o e H (.d y):=by
 refine ⟨λj v w g m k _ p=>?_⟩;have c:(execOp g o).run P w = .ok (.enter f (args.map g)) w:=by
  simp only [execOp,ho,resolve,p,Deferred.ofValue,invoke]
  grind [zaW]
 rw [c];have a:D.reps j w xs (args.map g).toList:=by
  have:=ha.reps (w:=w) (f:=g) m (λx t=>k x (by grind [Op.operands,Call.operands]));simp_all
 exact (hp.run j w (args.map g) (λb n=>m.own.zt4 b n) (m.own.glob.fr (Fr.refl ze w) (λ_ x=>x.elim) (λ_ _ h=>.inl h)) a).mono λr s ⟨u,l,i,q⟩=>⟨u,l,i,by grind [V.rep,D.zwt]⟩
structure Dyn (P:Program) (F:D) (xs:List D) (y:D):Prop where
 ex:∃ g caps,F = .fn (.func g) [] caps∧ztT P g=true∧Pure P g (xs++caps) y
theorem OpV.makeFunc {g cs ds} (ho:o.op = .makeFunc (.func g) #[] cs) (hc:evs e cs.toList=some ds):OpV P o e H (.d (.fn (.func g) [] ds)):=
 .of_same λb bs w f _ a=>by
  refine ⟨.func (.func g) #[] (cs.map f),by simp [execOp,ho,Instr.makeFunc],?_⟩;refine ⟨#[],cs.map f,rfl,by simp [D.reps],?_⟩;have:=zff (A:=Own b bs) (w:=w) (bs:=bs) (f:=f) hc (λx c=>a x (by grind [Op.operands]));simp_all
theorem OpV.dyn {x args tys F xs y} (ho:o.op = .call { callee:=.value x,args:=args,argTypes:=tys }) (hx:e x=some (.d F))
  (ha:evs e args.toList=some xs) (hp:Dyn P F xs y):OpV P o e H (.d y):=by
 obtain ⟨g,c,rfl,G,hp⟩:=hp.ex;refine ⟨λk bs w f m q _ z=>?_⟩;have s:=q x (by grind [Op.operands,Call.operands]) _ hx;obtain ⟨t,l,I,j,p⟩:=s;simp only [D.reps] at j;have r:t = #[]:=by grind
 have h:(execOp f o).run P w = .ok (.enter g (args.map f++l)) w:=by
  grind [execOp,resolve,Deferred.ofValue,invoke,zaW]
 rw [h];have a:D.reps (Own k bs) w (xs++c) (args.map f++l).toList:=by
  have:=zff (A:=Own k bs) (w:=w) (bs:=bs) (f:=f) ha (λx hx=>q x (by grind [Op.operands,Call.operands]));have:=D.zuq this p;simp_all
 refine (hp.run (Own k bs) w (args.map f++l) (λb i=>?_) m.own.glob a).mono λC E ⟨u,v,n,B⟩=>⟨u,v,n,by grind [V.rep]⟩
 rcases i with i | i
 ·exact m.own.zt4 b i
 ·exact m.own.lt b i
end
end
section
variable [ztS] [Drw]
def over:List Blk→List (Nat×Blk)→List Blk
 | H,[]=>H
 | H,(i,b)::r=>over (H.set i b) r
theorem znB:∀ (L:List (Nat×Blk)) (H:List Blk),(over H L).length=H.length
 | [],_=>rfl
 | (i,b)::r,H=>by rw [over,znB r];simp
section
variable {P:Program} {C:Ctx} {Q:Exit→St→Prop} {s:St}
theorem Tri.ztM {R:Type} {c x y} {b:Bool} {m n:Option R} {r:R} (hc:ev s.T c=some (.d (.bool b))) (h:(if b=true then m else n)=some r)
  (ht:m=some r→Tri P C x Q s) (hf:n=some r→Tri P C y Q s):Tri P C (.cond c x y) Q s:=
 .cond hc (λhb=>ht (iteT hb h)) (λhb=>hf (iteF hb h))
def zxP {σ R:Type} (k:σ→Option R) (r:R) (J:σ→St) (Q:Exit→St→Prop):Exit→St→Prop
 | .normal,s=>∃ v,k v=some r∧s.ge (J v)
 | e,s=>Q e s
theorem Tri.join {σ R:Type} {x y} {k:σ→Option R} {m:(σ→Option R)→Option R} {r:R} (ks:List Nat) {K} (upd:σ→List (Nat×V)) (hf:σ→List (Nat×Blk)) (_hK:Looks s.T ks K) (h:jn k m=some r)
  (hm:∀ k':σ→Option R,m k'=some r→Tri P C x (zxP k' r (λv=>⟨upd v++K,over s.H (hf v)⟩) Q) s)
  (hk:∀ v,k v=some r→Tri P C y Q ⟨upd v++K,over s.H (hf v)⟩) (hgn:Nat.ble C.gn s.H.length=true:=by exact rfl):Tri P C (.seq x y) Q s:=by
 refine .seq (Tri.mono (hm k h) λe s' hq=>?_);cases e <;> simp only [zxP,zwL] at hq ⊢
 case normal=>
  obtain ⟨v,hv,hg⟩:=hq;exact Tri.ge hg (hk v hv) (by simp only [znB];exact hgn)
 all_goals exact hq
theorem Tri.loopS {σ R:Type} {c} {body:(σ→Option R)→σ→Option R} {n:Nat} {init:σ} {r:R} (ks:List Nat) {K} (upd:σ→List (Nat×V)) (hf:σ→List (Nat×Blk)) (_hK:Looks s.T ks K) (h:ztO body n init=some r)
  (h0:s.ge ⟨upd init++K,over s.H (hf init)⟩)
  (hb:∀ (rec:σ→Option R) (v:σ),body rec v=some r→Tri P C c (zxP rec r (λv=>⟨upd v++K,over s.H (hf v)⟩) Q) ⟨upd v++K,over s.H (hf v)⟩) (hgn:Nat.ble C.gn s.H.length=true:=by exact rfl):Tri P C (.loop c) Q s:=by
 refine Tri.loopP n (λi s'=>∃ u,ztO body (n - i) u=some r∧s'.ge ⟨upd u++K,over s.H (hf u)⟩) ⟨init,by simpa using h,h0⟩ λi s' hi hs=>?_
 obtain ⟨u,hu,hg⟩:=hs;refine Tri.ge hg ?_ (by simp only [znB];exact hgn);cases hni:n - i with
 | zero=>rw [hni] at hu;simp [ztO] at hu
 | succ m=>
  rw [hni] at hu;simp only [ztO] at hu;refine Tri.mono (hb _ u hu) λe s'' hq=>?_
  cases e <;> simp only [zxP,zwL] at hq ⊢
  case normal=>
   obtain ⟨v',hv',hg'⟩:=hq;exact ⟨by omega,v',by rw [show n - (i+1)=m by omega];exact hv',hg'⟩
  all_goals exact hq
end
theorem zbU {P:Program} {t:Tmp} {y:D} {v:V} {s:St} (h:look t s.T=some v) (hf:Frz s.H v y):retQ P #[.tmp t] y .ret s:=⟨.inl rfl,[y],rfl,y,[],v,rfl,h,hf,rfl⟩
theorem zet {P:Program} {t:Tmp} {ty:TypeId} {ds:List D} {i:Nat} {T:TypeId} {cs:List V} {s:St} (h:look t s.T=some (.loc i 0)) (hi:s.H[i]? = some (.box T cs)) (hs:zZ P ty=some (some ds.length)) (hf:Frzs s.H cs ds):retQ P #[.cell t ty] (.agg ds) .ret s:=
 ⟨.inl rfl,[.agg ds],rfl,.agg ds,[],i,T,cs,rfl,h,hi,hs,.loc hi hf,rfl⟩
theorem zfo {P:Program} {t u:Tmp} {x y:D} {v w:V} {s:St} (h1:look t s.T=some v) (h2:look u s.T=some w) (f1:Frz s.H v x) (f2:Frz s.H w y):retQ P #[.tmp t,.tmp u] (.tup [x,y]) .ret s:=
 ⟨.inl rfl,[x,y],rfl,x,[y],v,rfl,h1,f1,y,[],w,rfl,h2,f2,rfl⟩
theorem znK {P:Program} {t u q:Tmp} {x y z:D} {v w a:V} {s:St} (h1:look t s.T=some v) (h2:look u s.T=some w) (h3:look q s.T=some a) (f1:Frz s.H v x) (f2:Frz s.H w y) (f3:Frz s.H a z):retQ P #[.tmp t,.tmp u,.tmp q] (.tup [x,y,z]) .ret s:=
 ⟨.inl rfl,[x,y,z],rfl,x,[y,z],v,rfl,h1,f1,y,[z],w,rfl,h2,f2,z,[],a,rfl,h3,f3,rfl⟩
theorem za6 {P:Program} {t u:Tmp} {ty:TypeId} {ds:List D} {i:Nat} {T:TypeId} {cs:List V} {y:D} {v:V} {s:St} (h:look t s.T=some (.loc i 0)) (hi:s.H[i]? = some (.box T cs)) (hs:zZ P ty=some (some ds.length)) (hf:Frzs s.H cs ds)
  (h2:look u s.T=some v) (f2:Frz s.H v y):retQ P #[.cell t ty,.tmp u] (.tup [.agg ds,y]) .ret s:=
 ⟨.inl rfl,[.agg ds,y],rfl,.agg ds,[y],i,T,cs,rfl,h,hi,hs,.loc hi hf,y,[],v,rfl,h2,f2,rfl⟩
theorem zse {P:Program} {t:Tmp} {ty:TypeId} {d:D} {i:Nat} {T:TypeId} {c:V} {s:St} (h:look t s.T=some (.loc i 0)) (hi:s.H[i]? = some (.box T [c])) (hs:zZ P ty=some none) (hf:Frz s.H c d) (h1:d.shape=none:=by rfl):retQ P #[.cell t ty] d .ret s:=
 ⟨.inl rfl,[d],rfl,d,[],i,T,[c],rfl,h,hi,by rw [hs,h1],.loc1 hi hf h1,rfl⟩
end
section
variable [ztS] [Drw]
def wk (k:IntKind) (x:Int):Int:=k.wrap x
def gmax (x y:Int):Int:=if y > x then y else x
def gmin (x y:Int):Int:=if y<x then y else x
theorem impT {b c} (h:(!b||c)=true) (hb:b=true):c=true:=by subst hb;simpa using h
theorem impF {b c} (h:(b||c)=true) (hb:b=false):c=true:=by subst hb;simpa using h
section
variable {P:Program} {o:Oper} {e:Operand→Option V} {H:List Blk}
theorem OpV.zvr {d0} (d) (he:d0=d) (h:OpV P o e H (.d d0)):OpV P o e H (.d d):=he▸h
theorem OpV.nilS {α:Type} (k:Nat) (enc:α→D) (ho:o.op = .assign (.const (.slice none 0 0))):OpV P o e H (.d (.sl k (List.map enc []))):=
 ⟨λA0 bs w f m _ hc _=>by
  have hrun:(execOp f o).run P w = .ok (.value (.slice none 0 0)) w:=by simp [execOp,ho,hc]
  rw [hrun];refine ⟨Fr.refl _ w,?_⟩;simp only [V.rep,D.rep,List.map_nil];exact ⟨none,0,rfl,yk _,.inl trivial⟩⟩
theorem OpV.max2 {x y tys a b k} (ho:o.op = .call { callee:=.builtin .max,args:=#[x,y],argTypes:=tys }) (hx:e x=some (.d (.val (.int k a)))) (hy:e y=some (.d (.val (.int k b)))):OpV P o e H (.d (.val (.int k (gmax a b)))):=
 .of_same λ_ _ w f _ hf=>by
  have h1:=zr.1 (hf x (by simp [ho,Op.operands,Call.operands]) _ hx);have h2:=zr.1 (hf y (by simp [ho,Op.operands,Call.operands]) _ hy);exact ⟨.int k (gmax a b),by simp [execOp,ho,resolve,invoke,builtin,Builtin.max_,Builtin.max2,h1,h2,gmax],zr.2 rfl⟩
theorem OpV.max3 {x y z tys a b c k} (ho:o.op = .call { callee:=.builtin .max,args:=#[x,y,z],argTypes:=tys }) (hx:e x=some (.d (.val (.int k a)))) (hy:e y=some (.d (.val (.int k b)))) (hz:e z=some (.d (.val (.int k c)))):OpV P o e H (.d (.val (.int k (gmax (gmax a b) c)))):=
 .of_same λ_ _ w f _ hf=>by
  have h1:=zr.1 (hf x (by simp [ho,Op.operands,Call.operands]) _ hx);have h2:=zr.1 (hf y (by simp [ho,Op.operands,Call.operands]) _ hy);have h3:=zr.1 (hf z (by simp [ho,Op.operands,Call.operands]) _ hz);exact ⟨.int k (gmax (gmax a b) c),by simp [execOp,ho,resolve,invoke,builtin,Builtin.max_,Builtin.max2,h1,h2,h3,gmax],zr.2 rfl⟩
theorem OpV.min2 {x y tys a b k} (ho:o.op = .call { callee:=.builtin .min,args:=#[x,y],argTypes:=tys }) (hx:e x=some (.d (.val (.int k a)))) (hy:e y=some (.d (.val (.int k b)))):OpV P o e H (.d (.val (.int k (gmin a b)))):=
 .of_same λ_ _ w f _ hf=>by
  have h1:=zr.1 (hf x (by simp [ho,Op.operands,Call.operands]) _ hx);have h2:=zr.1 (hf y (by simp [ho,Op.operands,Call.operands]) _ hy);exact ⟨.int k (gmin a b),by simp [execOp,ho,resolve,invoke,builtin,Builtin.min_,Builtin.min2,h1,h2,gmin],zr.2 rfl⟩
end
theorem zv0.nil {P t k} (h:zbC P t=some (.slice none 0 0)):zv0 P t (.sl k []):=⟨_,h,λ_ _=>by simp only [D.rep];exact ⟨none,0,rfl,yk _,.inl trivial⟩⟩
theorem TriL.zxL {P:Program} {C:Ctx} {ops:Array Oper} {o:Oper} {rest:List Oper} {Q:Exit→St→Prop} {T:List (Nat×V)} {H:List Blk} {α:Type} {t el:TypeId} {len k bytes d:Nat} {parts:Array (Nat×Operand)} {enc:α→D} {ys:List D} (xs:List α)
  (hg:o.guard=none) (ho:o.op = .buildSlice t len parts) (hd:o.dst=some d) (hdn:Nat.blt d C.n=true) (hp:parts.toList.map (·.1)=List.range' 0 len) (he:zbq P t el k bytes=true) (hx:evs (ev T) (parts.toList.map (·.2))=some ys) (hle:D.Les ys (xs.map enc))
  (hk:∀ x,(enc x).kOK k=true) (hl:Nat.ble (len*k) 16777216=true)
  (kk:TriL P C ops rest Q ⟨(d,.vec H.length xs.length)::T,H++[.vec el k (xs.map enc)]⟩):TriL P C ops (o::rest) Q ⟨T,H⟩:=by
 obtain ⟨htu,hk0,inf,z,hinf,hz,hisz,hib,hzc⟩:=zbA he;refine TriL.step hg (λbs a w hR=>?_) kk;have hreps:D.reps (Own C.A0 bs) w (xs.map enc) ((parts.toList.map (·.2)).map a.eval):=hle.reps (zff (H:=H) hx (λx _ y hy=>hR.ev hy));have hcells:=D.zvv hreps (k:=k) (by intro d hd;obtain ⟨x,_,rfl⟩:=yZ.1 hd;exact hk x);have hlen:=congrArg List.length hp;simp only [yL,List.length_range',yt] at hlen;have hkk:∀ u∈(parts.toList.map (·.2)).map a.eval,u.cells.size=k:=by
  intro u hu;obtain ⟨i,hi,rfl⟩:=List.getElem_of_mem hu;have hl2:=D.zub hreps;have hi':i<(xs.map enc).length:=by rw [← hl2];exact hi
  obtain ⟨v,hv,hr⟩:=D.zuE hreps i (xs.map enc)[i] (yC hi');rw [yC hi] at hv;cases hv;rw [List.getElem_map] at hr;exact D.zvL hr (hk _)
 obtain ⟨cells,g1,g2⟩:=zfz (P:=P) (w:=w) (k:=k) htu hinf hz hisz hzc hkk (by
  have:=yf hl;simp only [yL,yt,hlen];omega)
 have hzip:=znR (β:=D) parts.toList 0 (by rw [hp];simp [hlen]);have harr:(parts.map λ(i,x)=>(i,a.eval x))=((((parts.toList.map (·.2)).map a.eval).zipIdx 0).map λp=>(p.2,p.1)).toArray:=by
  apply Array.ext';rw [Array.toList_map]
  conv=>lhs;rw [hzip]
  simp only [List.zipIdx_map,uU];rfl
 have hrun:(execOp a.eval o).run P w = .ok (.value (.slice (some ⟨w.heap.size,0,none⟩) len len)) (w.alloc (.cells cells el)):=by
  simp only [yL,yt,hlen] at g2;simp only [execOp,ho,Sem.run_bind,harr,g2,Result.andThen_ok,Sem.run_pure]
 have hxl:xs.length=len:=by have:=D.zub hreps;simp at this;omega
 have hcl:cells.size=len*k:=by
  have:=D.zu6 hcells;rw [← g1] at this;simp only [yt,yL] at this;rw [this,hxl]
 refine ⟨_,_,bs++[some w.heap.size],hrun,.inl ⟨_,rfl,?_⟩⟩;have hcap:len≤maxLen:=by
  have h1:=yf hl;have h2:len≤len*k:=Nat.le_mul_of_pos_right _ hk0;simp only [maxLen];omega
 have:=hR.newVec (el:=el) (k:=k) (n:=len) (cap:=len) (r:=d) (cells:=cells) (xs:=xs.map enc) (by simpa using hdn) (by simp [hxl]) hcl (yk _) hcap (by
  rw [List.take_of_length_le (by rw [yt,hcl];exact yk _),g1];exact hcells)
 rw [hd,hxl];exact this
theorem TriL.zv7 {P:Program} {C:Ctx} {ops:Array Oper} {o:Oper} {rest:List Oper} {Q:Exit→St→Prop} {T:List (Nat×V)} {H:List Blk} {α:Type} {t el:TypeId} {len k bytes d:Nat} {parts:Array (Nat×Operand)} {enc:α→D} (xs:List α)
  (hg:o.guard=none) (ho:o.op = .buildSlice t len parts) (hd:o.dst=some d) (hdn:Nat.blt d C.n=true) (hp:parts.toList.map (·.1)=List.range' 0 len) (he:zbq P t el k bytes=true) (hx:evs (ev T) (parts.toList.map (·.2))=some (xs.map enc))
  (hk:∀ x,(enc x).kOK k=true) (hl:Nat.ble (len*k) 16777216=true)
  (kk:TriL P C ops rest Q ⟨(d,.vec H.length xs.length)::T,H++[.vec el k (xs.map enc)]⟩):TriL P C ops (o::rest) Q ⟨T,H⟩:=
 TriL.zxL xs hg ho hd hdn hp he hx (.refls _) hk hl kk
theorem R.zuC {C bs T H a w j c k t el cs} (h:R C bs ⟨T,H⟩ a w) (hj:H[j]? = some (.box t cs)) (hc:cs[c]? = some .nilS) :
  R C (bs++[none]) ⟨T,(H++[Blk.vec el k []]).set j (.box t (cs.set c (.vec H.length 0)))⟩ a w:=by
 have h1:R C (bs++[none]) ⟨T,H++[.vec el k []]⟩ a w:=h.zwu λ_ _ _=>by simp only [Blk.rep]
 have hlen:=h.len;simp only at hlen;have hjl:=(yc.1 hj).1;have hj':(H++[Blk.vec el k []])[j]? = some (.box t cs):=by rw [yh hjl];exact hj
 have hblk:=h1.blk j _ hj';simp only [Blk.rep] at hblk;obtain ⟨b,vs,hb,hh,hreps⟩:=hblk;have hset:(bs++[none]).set j (some b)=bs++[none]:=by
  refine ud λq=>?_
  by_cases hij:j=q
  ·subst hij;rw [yu (yc.1 hb).1,hb]
  ·rw [yw hij]
 have hfr:Fr (λq=>some b=some q) w w:=Fr.refl _ w;have hWA:∀ q,some b=some q→Own C.A0 (bs++[none]) q:=λq hq=>.inr (by rw [← hq];exact yx hb)
 have hupd:=R.upd (y:=.box t (cs.set c (.vec H.length 0))) (c':=some b) h1 hj' hb (by simp [Compat]) hfr (.inl rfl) (by
  simp only [Blk.rep];refine ⟨b,vs,by rw [yu (yc.1 hb).1],hh,?_⟩;have:=V.zvh (x:=.box t cs) (y:=.box t (cs.set c (.vec H.length 0))) (c:=some b) (c':=some b) (A':=Own C.A0 ((bs++[none]).set j (some b))) hj' hb (by simp [Compat]) h1.own.apart hfr hWA (λq hq=>hq) (λq _ hq=>by rw [hset] at hq;exact hq) cs vs.toList hreps;generalize hG:(H++[Blk.vec el k []]).set j (.box t (cs.set c (.vec H.length 0)))=G at this ⊢;have hGv:G[H.length]? = some (.vec el k []):=by
   rw [← hG,yw (by omega),yF (yk _)];simp
  rw [hset] at this ⊢;clear hG;have key:∀ (cs:List V) (us:List Value) (c:Nat),V.reps (Own C.A0 (bs++[none])) w (bs++[none]) G cs us→cs[c]? = some .nilS→V.reps (Own C.A0 (bs++[none])) w (bs++[none]) G (cs.set c (.vec H.length 0)) us:=by
   intro cs
   induction cs with
   | nil=>intro us c _ hc;simp at hc
   | cons x cs ih=>
    intro us c hr hc;simp only [V.reps] at hr;obtain ⟨v,vs',rfl,h2,h3⟩:=hr;cases c with
    | zero=>
     simp only [yP,yj] at hc;subst hc;simp only [List.set_cons_zero,V.reps];refine ⟨v,vs',rfl,?_,h3⟩;have hv:=zr.1 h2;subst hv;simp only [V.rep,hGv];exact ⟨yk _,λ_=>⟨[],World.ownsRow_nil w 0 el k,by rw [← hlen];simp [Value.ownBlock],by simp [D.flat]⟩⟩
    | succ c=>
     simp only [List.set_cons_succ,V.reps];exact ⟨v,vs',rfl,h2,ih vs' c h3 (by simpa using hc)⟩
  exact key cs _ c this hc)
 rw [hset] at hupd;exact hupd
theorem TriL.zuC {P C ops rest Q T H} (j c k el) {t cs} (hj:H[j]? = some (.box t cs)) (hc:cs[c]? = some .nilS)
  (kk:TriL P C ops rest Q ⟨T,(H++[Blk.vec el k []]).set j (.box t (cs.set c (.vec H.length 0)))⟩):TriL P C ops rest Q ⟨T,H⟩:=⟨λ_ a w hR=>kk.run _ a w (hR.zuC hj hc)⟩
section
variable {P:Program} {n:Nat} {ops:Array Oper} {H:List Blk} {l:List Oper} {p:Oper} {rest:List Oper} {al:List Ev} {T:List (Nat×V)} {K:List Ev→List (Nat×V)→Prop}
theorem TriQ.jAnd (m:Nat) {b b2:Bool} {g r d:Nat} (hl:l.drop m=p::rest) (hp:p.op = .pick (.tmp g) (.tmp r) (.const (.bool false)))
  (hb:look g T=some (.d (.bool b))) (hs:zgr ops n g true (l.take m) []=true) (hrun:Runs ops p T) (hgp:∀ j w g',p.guard=some (j,w)→(ops[j]?).bind (·.dst)=some g'→g'∉dsts (l.take m)) (hd:p.dst=some d) (hn:Nat.blt d n=true)
  (h1:b=true→TriQ P n ops H (l.take m) al ((g,.d (.bool true))::T) (λ_ T'=>look r T'=some (.d (.bool b2))))
  (h2:TriQ P n ops H rest al ((d,.d (.bool (b&&b2)))::zwI (dsts (l.take m)) T) K):TriQ P n ops H l al T K:=
 TriQ.zxG m (want:=true) hl hp ⟨rfl,rfl⟩ hb hs hrun hgp hd hn h1 h2
theorem TriQ.jOr (m:Nat) {b b2:Bool} {g r d:Nat} (hl:l.drop m=p::rest) (hp:p.op = .pick (.tmp g) (.const (.bool true)) (.tmp r))
  (hb:look g T=some (.d (.bool b))) (hs:zgr ops n g false (l.take m) []=true) (hrun:Runs ops p T) (hgp:∀ j w g',p.guard=some (j,w)→(ops[j]?).bind (·.dst)=some g'→g'∉dsts (l.take m)) (hd:p.dst=some d) (hn:Nat.blt d n=true)
  (h1:b=false→TriQ P n ops H (l.take m) al ((g,.d (.bool false))::T) (λ_ T'=>look r T'=some (.d (.bool b2))))
  (h2:TriQ P n ops H rest al ((d,.d (.bool (b||b2)))::zwI (dsts (l.take m)) T) K):TriQ P n ops H l al T K:=
 TriQ.zxG m (want:=false) hl hp ⟨rfl,rfl⟩ hb hs hrun hgp hd hn h1 h2
end
end
section
variable [ztS] [Drw]
theorem cutS {α:Type} {l:List α} {lo hi:Int} {r:List α} (h:cut l lo hi=some r):∃ a b:Nat,lo=(a:Int)∧hi=(b:Int)∧a≤b∧b≤l.length∧r=(l.drop a).take (b - a):=by
 unfold cut at h;split at h
 ·rename_i h0;obtain ⟨h1,h2,h3⟩:=h0;obtain ⟨a,rfl⟩:=yW h1;obtain ⟨b,rfl⟩:=yW (Int.le_trans h1 h2);cases h;exact ⟨a,b,rfl,rfl,by omega,by omega,by simp⟩
 ·cases h
theorem zf0 (l:List UInt8) (a b):(⟨l.toArray⟩:ByteArray).extract a b=⟨((l.drop a).take (b - a)).toArray⟩:=by
 apply ByteArray.ext;rw [ByteArray.data_extract];apply Array.ext';simp [List.extract_eq_take_drop]
section
variable {P:Program} {o:Oper} {e:Operand→Option V} {H:List Blk}
theorem OpV.zwY {t x y z} {l r:List UInt8} {lo hi:Int} (ho:o.op = .slice t x (some y) (some z) none) (hx:e x=some (.d (.str l))) (hy:e y=some (.d (.int lo))) (hz:e z=some (.d (.int hi))) (ht:P.underlying t=some .string) (hr:cut l lo hi=some r):OpV P o e H (.d (.str r)):=by
 obtain ⟨a,b,rfl,rfl,h1,h2,rfl⟩:=cutS hr;refine .of_same λA0 bs w f _ hf=>?_
 have e1:=zr.1 (hf x (by simp [ho,Op.operands]) _ hx);have e2:=zr.1 (hf y (by simp [ho,Op.operands]) _ hy);have e3:=zr.1 (hf z (by simp [ho,Op.operands]) _ hz);refine ⟨_,?_,zr.2 rfl⟩;have h2':b≤(⟨l.toArray⟩:ByteArray).size:=h2;simp [execOp,ho,e1,e2,e3,run_sliceAt_string w t _ _ _ _ ht,Instr.slice,run_underlying ht,Instr.sliceBounds,Instr.sliceBound,asIntOf,h2',h1,zf0]
theorem OpV.zwx {t x y} {l r:List UInt8} {lo:Int} (ho:o.op = .slice t x (some y) none none) (hx:e x=some (.d (.str l))) (hy:e y=some (.d (.int lo))) (ht:P.underlying t=some .string) (hr:cut l lo (l.length:Int)=some r):OpV P o e H (.d (.str r)):=by
 obtain ⟨a,b,rfl,hb,h1,h2,rfl⟩:=cutS hr;have hb':l.length=b:=by omega
 subst hb';refine .of_same λA0 bs w f _ hf=>?_
 have e1:=zr.1 (hf x (by simp [ho,Op.operands]) _ hx);have e2:=zr.1 (hf y (by simp [ho,Op.operands]) _ hy);refine ⟨_,?_,zr.2 rfl⟩;have hs:(⟨l.toArray⟩:ByteArray).size=l.length:=rfl;simp [execOp,ho,e1,e2,run_sliceAt_string w t _ _ _ _ ht,Instr.slice,run_underlying ht,Instr.sliceBounds,Instr.sliceBound,asIntOf,hs,h1,zf0]
theorem OpV.zx5 {t x z} {l r:List UInt8} {hi:Int} (ho:o.op = .slice t x none (some z) none) (hx:e x=some (.d (.str l))) (hz:e z=some (.d (.int hi))) (ht:P.underlying t=some .string) (hr:cut l 0 hi=some r):OpV P o e H (.d (.str r)):=by
 obtain ⟨a,b,ha,rfl,h1,h2,rfl⟩:=cutS hr;have ha':a=0:=by omega
 subst ha';refine .of_same λA0 bs w f _ hf=>?_
 have e1:=zr.1 (hf x (by simp [ho,Op.operands]) _ hx);have e3:=zr.1 (hf z (by simp [ho,Op.operands]) _ hz);refine ⟨_,?_,zr.2 rfl⟩;have h2':b≤(⟨l.toArray⟩:ByteArray).size:=h2;simp [execOp,ho,e1,e3,run_sliceAt_string w t _ _ _ _ ht,Instr.slice,run_underlying ht,Instr.sliceBounds,Instr.sliceBound,asIntOf,h2',zf0]
end
end
section
variable [ztS] [Drw]
def eqV:Value→Value→Bool
 | .bool a,.bool b=>a==b
 | .int _ a,.int _ b=>a==b
 | .string a,.string b=>a.toList==b.toList
 | _,_=>false
def eqVs:List Value→List Value→Bool
 | [],[]=>true
 | x::xs,y::ys=>eqV x y&&eqVs xs ys
 | _,_=>false
def zrv:TypeDesc→Value→Bool
 | .bool,.bool _=>true
 | .int k,.int j _=>decide (j=k)
 | .string,.string _=>true
 | _,_=>false
def zaV:List TypeDesc→List Value→Bool
 | [],[]=>true
 | d::ds,v::vs=>zrv d v&&zaV ds vs
 | _,_=>false
def zn9 (rec:TypeId→Option (List TypeDesc)):List Field→Nat→Option (List TypeDesc)
 | [],_=>some []
 | f :: fs, off => if f.name = "_" ∨ f.offset ≠ off then none else match rec f.type with
  | none=>none
  | some l=>match zn9 rec fs (off+l.length) with
   | none=>none
   | some r=>some (l++r)
def zw0 (P:Program):Nat→TypeId→Option (List TypeDesc)
 | 0,_=>none
 | d+1,t=>match P.underlying t with
  | some (.struct fs)=>if P.stoodInHeld t=true then none else match zn9 (zw0 P d) fs.toList 0 with
   | none=>none
   | some l=>if (P.info? t).map (·.size)=some l.length then some l else none
  | some .bool=>some [.bool]
  | some (.int k)=>some [.int k]
  | some .string=>some [.string]
  | _=>none
theorem zcl:∀ {ls:List TypeDesc} {vs:List Value},zaV ls vs=true→vs.length=ls.length
 | [],[],_=>rfl
 | _::_,_::_,h=>by simp only [zaV,yd] at h;simp [zcl h.2]
 | [],_::_,h=>by simp [zaV] at h
 | _::_,[],h=>by simp [zaV] at h
theorem zeZ:∀ {l r:List TypeDesc} {vs:List Value},zaV (l++r) vs=true→zaV l (vs.take l.length)=true∧zaV r (vs.drop l.length)=true
 | [],r,vs,h=>by simpa [zaV] using h
 | d::l,r,[],h=>by simp [zaV] at h
 | d::l,r,v::vs,h=>by
  simp only [ug,zaV,yd] at h;have:=zeZ (l:=l) h.2;simp only [yR,List.take_succ_cons,List.drop_succ_cons,zaV,yd];exact ⟨⟨h.1,this.1⟩,this.2⟩
theorem zmE:∀ (n:Nat) (xs ys:List Value),xs.length=ys.length→eqVs xs ys=(eqVs (xs.take n) (ys.take n)&&eqVs (xs.drop n) (ys.drop n))
 | 0,xs,ys,_=>by simp [eqVs]
 | n+1,[],[],_=>by simp [eqVs]
 | n+1,x::xs,y::ys,h=>by
  simp only [eqVs,List.take_succ_cons,List.drop_succ_cons,zmE n xs ys (by simpa using h),Bool.and_assoc]
 | n+1,[],_::_,h=>by simp at h
 | n+1,_::_,[],h=>by simp at h
def zwJ (P:Program) (t:TypeId) (cs:Array Value):Value:=match P.underlying t with | some (.struct _)=>.agg cs | _=>cs.getD 0 undef
def zsp (P:Program) (d:Nat):Prop:=∀ (t:TypeId) (ls:List TypeDesc),zw0 P d t=some ls→∀ (m:Nat) (w:World) (xs ys:Array Value),d≤m→zaV ls xs.toList=true→zaV ls ys.toList=true →
 (Op.equalIn m t (zwJ P t xs) (zwJ P t ys)).run P w = .ok (eqVs xs.toList ys.toList) w
theorem zjb {P d t} {l:List TypeDesc} (h:zw0 P d t=some l) (w xs off) (hl:zaV l ((xs.toList.drop off).take l.length)=true) :
    (part t xs off).run P w = .ok (zwJ P t (xs.extract off (off+l.length))) w:=by
  cases d with
  | zero=>simp [zw0] at h
  | succ d=>
    have hlen:=zcl hl;unfold zw0 at h;split at h
    · rename_i fs hu
      split at h
      · cases h
      · split at h
        · cases h
        · rename_i l' _
          split at h
          · rename_i hs
            cases h;cases hi:P.info? t with
            | none=>simp [hi] at hs
            | some i=>
              simp only [hi,yT,yj] at hs;simp [part,isAgg,run_underlying hu,sizeOf,typeInfo,hi,hs,zwJ,hu]
          · cases h
    all_goals first
      | (cases h;done)
      | (rename_i hu
         cases h;simp only [uA] at hl hlen ⊢;have h1:off<xs.size:=by simp at hlen;omega
         have hx:xs[off]? = some xs[off]:=um h1;simp [part,isAgg,run_underlying hu,hx,zwJ,hu,Array.getD,Array.size_extract]
         try (intro h2;exfalso;omega))
theorem zfQ {P d m} (ih:zsp P d) (hm:d≤m) (xs ys):∀ (fs:List Field) (off:Nat) (ls:List TypeDesc) (w:World),zn9 (zw0 P d) fs off=some ls →
  zaV ls (xs.toList.drop off)=true→zaV ls (ys.toList.drop off)=true→(Op.eqFields m xs ys fs).run P w = .ok (eqVs (xs.toList.drop off) (ys.toList.drop off)) w
 | [],off,ls,w,h,hx,hy=>by
  simp only [zn9] at h;cases h;have h1:=zcl hx;have h2:=zcl hy;rw [List.length_eq_zero_iff.1 h1,List.length_eq_zero_iff.1 h2];simp [Op.eqFields,eqVs]
 | f::fs,off,ls,w,h,hx,hy=>by
  simp only [zn9] at h;split at h
  ·cases h
  ·rename_i hno;have hn : f.name ≠ "_" := fun e => hno (.inl e)
   have ho:f.offset=off:=Classical.byContradiction λe=>hno (.inr e)
   split at h
   ·cases h
   ·rename_i l hl;split at h
    ·cases h
    ·rename_i r hr;cases h;obtain ⟨x1,x2⟩:=zeZ hx;obtain ⟨y1,y2⟩:=zeZ hy;have px:=zjb hl w xs off x1;have py:=zjb hl w ys off y1;have ex:(xs.extract off (off+l.length)).toList=(xs.toList.drop off).take l.length:=by rw [Array.toList_extract];simp [List.extract]
     have ey:(ys.extract off (off+l.length)).toList=(ys.toList.drop off).take l.length:=by rw [Array.toList_extract];simp [List.extract]
     have hq:=ih f.type l hl m w (xs.extract off (off+l.length)) (ys.extract off (off+l.length)) hm (by rw [ex];exact x1) (by rw [ey];exact y1);rw [ex,ey] at hq;have hrec:=zfQ ih hm xs ys fs (off+l.length) r w hr (by rw [← List.drop_drop];exact x2) (by rw [← List.drop_drop];exact y2);have hlx:=zcl hx;have hly:=zcl hy;rw [zmE l.length _ _ (by rw [hlx,hly]),List.drop_drop,List.drop_drop];simp only [Op.eqFields,hn,ne_eq,not_false_eq_true,if_true,ho,Sem.run_bind,px,py,hq,Result.andThen_ok,Sem.run_ite];cases hb:eqVs (List.take l.length (List.drop off xs.toList)) (List.take l.length (List.drop off ys.toList))
     ·simp
     ·simp [hrec]
theorem zsy {P}:∀ d,zsp P d
  | 0=>λt ls h=>by simp [zw0] at h
  | d + 1 => fun t ls h m w xs ys hm hx hy => by
    obtain ⟨m,rfl⟩:∃ m',m=m'+1:=⟨m - 1,by omega⟩
    unfold zw0 at h;split at h
    · rename_i fs hu
      split at h
      · cases h
      · rename_i hst
        split at h
        · cases h
        · rename_i l' hl'
          split at h
          · cases h
            have hf:P.fieldsOf t=fs:=by simp [Program.fieldsOf,hu]
            have hp:∀ cs,zwJ P t cs = .agg cs:=λcs=>by simp [zwJ,hu]
            rw [hp,hp,run_equalIn_struct w m t xs ys (by rw [hf];exact hu) (by simpa using hst),hf];have:=zfQ (zsy d) (by omega:d≤m) xs ys fs.toList 0 ls w hl' (by simpa using hx) (by simpa using hy);simpa using this
          · cases h
    all_goals first
      | (cases h;done)
      | (rename_i hu
         cases h;obtain ⟨xl,rfl⟩:∃ l:List Value,xs=l.toArray:=⟨xs.toList,by simp⟩
         obtain ⟨yl,rfl⟩:∃ l:List Value,ys=l.toArray:=⟨ys.toList,by simp⟩
         cases xl with
         | nil=>simp [zaV] at hx
         | cons x xl=>
           cases yl with
           | nil=>simp [zaV] at hy
           | cons y yl=>
             have h1:=zcl hx;have h2:=zcl hy;simp at h1 h2;subst h1;subst h2;simp only [zaV,ul] at hx hy;cases x <;> simp only [zrv,yg,ye] at hx
             cases y <;> simp only [zrv,yg,ye] at hy
             try subst hx
             try subst hy
             simp [zwJ,hu,eqVs,eqV,run_equalIn_bool' w m t _ _ ,run_equalIn_int w m t,run_equalIn_string w m t])
section
variable {P:Program} {o:Oper} {e:Operand→Option V} {H:List Blk}
theorem zmW {A w}:∀ {l vs:List Value},D.reps A w (l.map .val) vs→vs=l
 | [],vs,h=>by simpa [D.reps] using h
 | v::l,vs,h=>by
  simp only [yV,D.reps] at h;obtain ⟨u,us,rfl,h1,h2⟩:=h;simp only [D.rep] at h1;rw [h1,zmW h2]
def zis (vs:List Value):D:=.agg (vs.map .val)
theorem ze6 {A w vs v} (h:(zis vs).rep A w v):v = .agg vs.toArray:=by
 simp only [zis,D.rep] at h;obtain ⟨us,rfl,h2⟩:=h;rw [← zmW h2]
structure zvC (P:Program) (t:TypeId) (ls:List TypeDesc):Prop where
 flat:zw0 P 20 t=some ls
 str:(match P.underlying t with | some (.struct _)=>true | _=>false)=true
 grd:P.eqGuardType P.depth t=false
theorem zvC.run {t} {ls:List TypeDesc} (h:zvC P t ls) {xs ys} (hx:zaV ls xs=true) (hy:zaV ls ys=true) (w) :
  (Op.equalIn 10000 t (.agg xs.toArray) (.agg ys.toArray)).run P w = .ok (eqVs xs ys) w:=by
 have:=zsy 20 t ls h.flat 10000 w xs.toArray ys.toArray (by decide) (by simpa using hx) (by simpa using hy);have hp:∀ cs,zwJ P t cs = .agg cs:=λcs=>by
  have:=h.str;unfold zwJ;split at this
  ·rename_i hu;simp [hu]
  ·cases this
 simpa [hp] using this
theorem OpV.seql {t u x y} {ls:List TypeDesc} {a b xs ys r} (ho:o.op = .binOp .eql t x y u) (ht:zvC P t ls) (hx:e x=some (.d a)) (hy:e y=some (.d b)) (ha:a=zis xs) (hb:b=zis ys)
  (lx:zaV ls xs=true) (ly:zaV ls ys=true) (hr:eqVs xs ys=r):OpV P o e H (.d (.bool r)):=
 .of_same λ_ _ w f _ hf=>by
  subst ha;subst hb;have h1:=hf x (by simp [ho,Op.operands]) _ hx;have h2:=hf y (by simp [ho,Op.operands]) _ hy;simp only [V.rep] at h1 h2;have h1:=ze6 h1;have h2:=ze6 h2;exact ⟨.bool r,by simp only [execOp,ho,h1,h2,run_eqGuard_agg w _ t x y _ _ ht.grd,run_eql_struct,ht.run lx ly,hr,Sem.run_bind,Sem.run_pure,Result.andThen_ok],zr.2 rfl⟩
theorem OpV.sneq {t u x y} {ls:List TypeDesc} {a b xs ys r} (ho:o.op = .binOp .neq t x y u) (ht:zvC P t ls) (hx:e x=some (.d a)) (hy:e y=some (.d b)) (ha:a=zis xs) (hb:b=zis ys)
  (lx:zaV ls xs=true) (ly:zaV ls ys=true) (hr:eqVs xs ys=r):OpV P o e H (.d (.bool (!r))):=
 .of_same λ_ _ w f _ hf=>by
  subst ha;subst hb;have h1:=hf x (by simp [ho,Op.operands]) _ hx;have h2:=hf y (by simp [ho,Op.operands]) _ hy;simp only [V.rep] at h1 h2;have h1:=ze6 h1;have h2:=ze6 h2;exact ⟨.bool (!r),by simp only [execOp,ho,h1,h2,run_eqGuard_agg w _ t x y _ _ ht.grd,run_neq_struct,ht.run lx ly,hr,Sem.run_bind,Sem.run_pure,Result.andThen_ok],zr.2 rfl⟩
theorem OpV.zwl {f args tys xs xs' y} (ho:o.op = .call { callee:=.value (.func f),args:=args,argTypes:=tys }) (hc:ztT P f=true)
  (hx:evs e args.toList=some xs) (hl:D.Les xs xs') (hp:Pure P f xs' y):OpV P o e H (.d y):=
 .call ho hc hx ⟨λA w vs h1 hg h2=>hp.run A w vs h1 hg (hl.reps h2)⟩
end
end
section
variable [ztS] [Drw]
theorem zmk {z k} (hz:z.size=k) (hk:0<k) (n):(madeCells z ((n+1)*k)).toList=z.toList++(madeCells z (n*k)).toList:=by
 unfold madeCells;rw [Array.toList_map,Array.toList_map,Array.toList_range,Array.toList_range,uo,Nat.add_comm,List.range_add,uw,uU];congr 1
 ·apply List.ext_getElem
  ·simp [hz]
  ·intro i h1 h2;simp only [yL,List.length_range] at h1;have:i<z.size:=by omega
   simp only [List.getElem_map,List.getElem_range,hz,Nat.mod_eq_of_lt h1];simp [this]
 ·apply List.map_congr_left;intro i _;simp [hz]
theorem zob {A w k z d} (hr:d.rep A w z) (hz:z.cells.size=k) (hk:0<k):∀ n,D.flat A w k (List.replicate n d) (madeCells z.cells (n*k)).toList
 | 0=>by simp [D.flat,madeCells]
 | n+1=>by
  rw [zmk hz hk,List.replicate_succ];simp only [D.flat];exact ⟨z,_,rfl,hz,hr,zob hr hz hk n⟩
theorem mkS {α:Type} {b:Nat} {n:Int} {x:α} {r:List α} (h:mkl b n x=some r):∃ m:Nat,n=(m:Int)∧m*b≤140737488355328∧r=List.replicate m x:=by
 unfold mkl at h;split at h
 ·rename_i h0;obtain ⟨m,rfl⟩:=yW h0.1;cases h;exact ⟨m,rfl,by have:=h0.2;rw [← uv] at this;omega,by simp⟩
 ·cases h
theorem zuG {i:Nat} {ids:List Nat} (h:ids.contains i=true):i∈ids:=by simpa using h
theorem TriL.zvy {P:Program} {C:Ctx} {ops:Array Oper} {o:Oper} {rest:List Oper} {Q:Exit→St→Prop} {T:List (Nat×V)} {H:List Blk} {α:Type} {t el:TypeId} {k bytes d:Nat} {x y:Operand} {enc:α→D} {m:Int} {z:α} {r:List α}
  (hg:o.guard=none) (ho:o.op = .makeSlice t x y) (hd:o.dst=some d) (hdn:Nat.blt d C.n=true) (he:zbq P t el k bytes=true) (hb:Nat.blt 0 bytes=true) (hx:ev T x=some (.d (.int m))) (hy:ev T y=some (.d (.int m))) (hz:zv0 P el (enc z)) (hm:mkl bytes m z=some r)
  (kk:TriL P C ops rest Q ⟨(d,.vec H.length r.length)::T,H++[.vec el k (r.map enc)]⟩):TriL P C ops (o::rest) Q ⟨T,H⟩:=by
 obtain ⟨htu,hk0,inf,zv,hinf,hzv,hisz,hib,hzc⟩:=zbA he;obtain ⟨n,rfl,hn,rfl⟩:=mkS hm;obtain ⟨z',hz1,hz2⟩:=hz.out;have:z'=zv:=by unfold zbC at hz1;rw [hinf] at hz1;simp only [hzv,yj] at hz1;exact hz1.symm
 subst this;have hb0:0<bytes:=by simpa using hb
 have hn2:n≤140737488355328:=yJ (Nat.le_mul_of_pos_right n hb0) hn;refine TriL.step hg (λbs a w hR=>?_) kk;have e1:=zr.1 (hR.ev hx);have e2:=zr.1 (hR.ev hy);have hmk:=run_make (P:=P) w t el inf z' htu hinf hzv .i64 .i64 n n (by omega) (Int.le_refl _) (by rw [hib,← uv,Nat.mul_comm];omega) (by omega);have hrun:(execOp a.eval o).run P w = .ok (.value (.slice (some ⟨w.heap.size,0,none⟩) n n)) (w.alloc (.cells (madeCells z'.cells (n*k)) el)):=by
  simp only [execOp,ho,e1,e2,Sem.run_bind,hmk,Result.andThen_ok,Sem.run_pure,yz,hisz]
 refine ⟨_,_,bs++[some w.heap.size],hrun,.inl ⟨_,rfl,?_⟩⟩;have:=hR.newVec (el:=el) (k:=k) (n:=n) (cap:=n) (r:=d) (cells:=madeCells z'.cells (n*k)) (xs:=List.replicate n (enc z)) (by simpa using hdn) (by simp) (size_madeCells _ _) (yk _) (by simp only [maxLen];omega) (by
  rw [List.take_of_length_le (by rw [yt,size_madeCells];exact yk _)];exact zob (hz2 _ _) hzc hk0 n)
 rw [hd];simpa using this
theorem zag {α:Type} {l:List α} {i:Int} {x:α} {r:List α} (h:sto l i x=some r):l.length=r.length:=by
 obtain ⟨n,_,_,rfl⟩:=stoS h;simp
theorem TriL.zuu {P C ops rest Q T H} (t) {i n m} (ht:look t T=some (.vec i n)) (e:n=m)
  (k:TriL P C ops rest Q ⟨(t,.vec i m)::T,H⟩):TriL P C ops rest Q ⟨T,H⟩:=by
 subst e;exact ⟨λ_ a w hR=>k.run _ a w (hR.know (hR.tmp t _ ht).1 (hR.tmp t _ ht).2)⟩
theorem TriL.zuS {P C ops rest Q T H} (j c) {i n m t cs} (hj:H[j]? = some (.box t cs)) (hc:cs[c]? = some (.vec i n)) (e:n=m)
  (k:TriL P C ops rest Q ⟨T,H.set j (.box t (cs.set c (.vec i m)))⟩):TriL P C ops rest Q ⟨T,H⟩:=by
 subst e;obtain ⟨hc1,hc2⟩:=yc.1 hc;obtain ⟨hj1,hj2⟩:=yc.1 hj;rw [← hc2,List.set_getElem_self,← hj2,List.set_getElem_self] at k;exact k
end
section
variable [ztS] [Drw]
def zoc (o:Oper):Bool:=match o.guard,o.dst,o.op with
 | none,some _,.move _=>true
 | none,some _,.binOp .quo _ (.tmp _) (.tmp _) _=>true
 | none,some _,.binOp .rem _ (.tmp _) (.tmp _) _=>true
 | _,_,_=>false
def ziu (o:Oper) (T:List (Nat×V)):Prop:=match o.op with
 | .binOp _ _ (.tmp x) (.tmp y) _=>∃ a b:Int,look x T=some (.d (.int a))∧look y T=some (.d (.int b))
 | _=>True
theorem zqt {P o} (h:zoc o=true) {T} (hi:ziu o T) {f} (hf:∀ x a,Operand.tmp x∈o.op.operands→look x T=some (.d (.int a))→f (.tmp x) = .int .i64 a) {w} {K:Value→World→Prop} (hr:zgl P K ((execOp f o).run P w)) :
  ∃ u,K u w∧∀ w',(execOp f o).run P w' = .ok (.value u) w':=by
 unfold zoc at h;split at h
 ·rename_i x _ _ ho;have:∀ w',(execOp f o).run P w' = .ok (.value (f x)) w':=λw'=>by simp [execOp,ho]
  rw [this] at hr;exact ⟨_,hr,this⟩
 ·rename_i t x y u _ _ ho;simp only [ziu,ho] at hi;obtain ⟨a,b,h1,h2⟩:=hi;have e1:=hf x a (by simp [ho,Op.operands]) h1;have e2:=hf y b (by simp [ho,Op.operands]) h2;by_cases hb:b=0
  ·exfalso;revert hr;simp [execOp,ho,e1,e2,eqGuard_at_int,binOp,Op.intDiv,hb,zgl,runtimePanic,goPanic,Result.andThen]
  ·have:∀ w',(execOp f o).run P w' = .ok (.value (.int .i64 (w64 (a.tdiv b)))) w':=λw'=>by
    simp [execOp,ho,e1,e2,eqGuard_at_int,binOp,Op.intDiv,hb,w64]
   rw [this] at hr;exact ⟨_,hr,this⟩
 ·rename_i t x y u _ _ ho;simp only [ziu,ho] at hi;obtain ⟨a,b,h1,h2⟩:=hi;have e1:=hf x a (by simp [ho,Op.operands]) h1;have e2:=hf y b (by simp [ho,Op.operands]) h2;by_cases hb:b=0
  ·exfalso;revert hr;simp [execOp,ho,e1,e2,eqGuard_at_int,binOp,Op.intDiv,hb,zgl,runtimePanic,goPanic,Result.andThen]
  ·have:∀ w',(execOp f o).run P w' = .ok (.value (.int .i64 (a.tmod b))) w':=λw'=>by
    simp [execOp,ho,e1,e2,eqGuard_at_int,binOp,Op.intDiv,hb]
   rw [this] at hr;exact ⟨_,hr,this⟩
 ·cases h
def znp (o:Oper):Bool:=match o.op with | .select _ _=>true | _=>false
def zf5 (l:List Oper) (n:Nat):List Nat→List Nat→Bool
 | [],_=>true
 | i::F,dn=>(match l[i]? with
  | none=>false
  | some oi=>zoc oi&&decide (i<n)&&!dn.contains i&&oi.after.toList.all (λe=>!Region.binds .any e||dn.contains e.on) &&
   (List.range l.length).all (λj=>j==i||dn.contains j||(match l[j]? with
    | none=>false
    | some oj=>oj.after.toList.any (λe=>Region.binds .any e&&e.on==i)||oi.apart l.toArray oj)) &&
   (match oi.op with
    | .binOp _ _ (.tmp x) (.tmp y) _=>(List.range l.length).all λj=>decide (j<i)||(match l[j]? with | none=>true | some oj=>oj.dst != some x&&oj.dst != some y)
    | _=>true))&&zf5 l n F (i::dn)
def zdh (Q:Exit→St→Prop):Exit→St→Prop
 | .panic _,_=>False
 | e,s=>Q e s
structure First (l:List Oper) (n:Nat) (i:Nat) (oi:Oper) (dn:List Nat):Prop where
 at_:l[i]? = some oi
 free:zoc oi=true
 lt:i<n
 new:i∉dn
 after:∀ e∈oi.after.toList,Region.binds .any e=true→e.on∈dn
 apart:∀ j oj,l[j]? = some oj→j≠i→j∉dn→(∀ e∈oj.after.toList,Region.binds .any e=true→e.on≠i)→oi.apart l.toArray oj=true
 ops:∀ op t x y u,oi.op = .binOp op t (.tmp x) (.tmp y) u→∀ j oj,l[j]? = some oj→¬ j<i→oj.dst≠some x∧oj.dst≠some y
theorem ziF {l n i F dn} (h:zf5 l n (i::F) dn=true):(∃ oi,First l n i oi dn)∧zf5 l n F (i::dn)=true:=by
 simp only [zf5,yd] at h;refine ⟨?_,h.2⟩;have h:=h.1;cases ho:l[i]? with
 | none=>simp [ho] at h
 | some oi=>
  simp only [ho,yd,yg,yB,yq] at h;obtain ⟨⟨⟨⟨⟨h1,h2⟩,h3⟩,h4⟩,h5⟩,h6⟩:=h;refine ⟨oi,ho,h1,h2,by simpa using h3,λe he hb=>?_,λj oj hj hji hjd hw=>?_,λop t x y u hop j oj hj hlt=>?_⟩
  ·have:=h4 e he;simpa [hb] using this
  ·have:=h5 j (y7.2 (yc.1 hj).1);simp only [hj,yK,beq_iff_eq,uD,yd] at this;rcases this with (h | h) | ⟨e,he,h7,h8⟩ | h
   ·exact absurd h hji
   ·exact absurd (by simpa using h) hjd
   ·exact absurd h8 (hw e he h7)
   ·exact h
  ·simp only [hop,yq] at h6;have:=h6 j (y7.2 (yc.1 hj).1);simp only [hj,yK,yg,yd,bne_iff_ne,ne_eq] at this;exact this.resolve_left hlt
theorem zth {l T0 ps M L0 n} (ok:zwS l n M L0) (hfst:∀ (i:Nat) (o:Oper) (v:V),ps[i]? = some (o,v)→l[i]? = some o) {listed} (hsz:listed.size=l.length) (hcl:zv4 l M listed) {i o v}
  (hpi:ps[i]? = some (o,v)) (hil:listed.getD i false=false) (hbef:∀ k,(M.getD i 0).testBit k=true→listed.getD k false=true) (t:Nat) :
  look t (TL T0 ps (λk=>(listed.setIfInBounds i true).getD k false) ps.length)=look t (putT (TL T0 ps (λk=>listed.getD k false) ps.length) o.dst v):=by
 have ho:=hfst i o v hpi;have hilt:=(yc.1 ho).1;have hips:=(yc.1 hpi).1;rw [zeg];by_cases hd:o.dst=some t
 ·rw [if_pos hd];have h1:look t (TL T0 ps (λk=>(listed.setIfInBounds i true).getD k false) ps.length)=look t (TL T0 ps (λk=>decide (k<i+1)) ps.length):=by
   refine zeC (λk ok' vk hk hdk=>?_) ps.length;have hlk:=hfst k ok' vk hk;rw [zaC _ _ _ _ (by omega)];rcases Nat.lt_trichotomy k i with hki | hki | hki
   ·rw [if_neg (by omega)];simp only [show k<i+1 by omega,decide_true];rcases ok.pair k i ok' _ hki hlk ho with hb | hap
    ·exact hbef k hb
    ·exact absurd hd ((Oper.apart_spec hap).2.1 t hdk)
   ·rw [if_pos hki];simp [hki]
   ·rw [if_neg (by omega)];simp only [show ¬ k<i+1 by omega,decide_false];cases hb:listed.getD k false with
    | false=>rfl
    | true=>
     exfalso;rcases ok.pair i k _ ok' hki ho hlk with hb2 | hap
     ·have:=hcl k (by have:=(yc.1 hlk).1;omega) hb i hb2;rw [hil] at this;cases this
     ·exact (Oper.apart_spec hap).2.1 t hd hdk
  rw [h1];have h2:=zfE (T:=T0) (ps:=ps) (p:=λk=>decide (k<i+1)) (m:=i+1) (λk hk=>by simp;omega) (ps.length - (i+1));rw [show i+1+(ps.length - (i+1))=ps.length by omega] at h2;rw [h2];simp only [TL,hpi,Nat.lt_succ_self,decide_true,if_true,zeg,hd]
 ·rw [if_neg hd];refine zeC (λk ok' vk hk hdk=>?_) ps.length;rw [zaC _ _ _ _ (by omega)];split
  ·rename_i hki;subst hki;rw [hpi] at hk;simp only [yj,yv] at hk;obtain ⟨rfl,_⟩:=hk;exact absurd hdk hd
  ·rfl
theorem zkA {P C bs H T0 Q ps M L0 l n} (hQ:∀ c s,¬ Q (.panic c) s) (hsel:l.all (λo=>!znp o)=true)
  (hfst:∀ (i:Nat) (o:Oper) (v:V),ps[i]? = some (o,v)→l[i]? = some o) (hpn:ps.length=n) (ok:zwS l n M L0) (hy:∀ (i:Nat) (o:Oper) (v:V),ps[i]? = some (o,v)→YV P C.n l.toArray H o (TL T0 ps (λk=>decide (k<i)) ps.length) v):∀ (F dn:List Nat),zf5 l n F dn=true →
  (∀ i∈F,∀ o,l[i]? = some o→ziu o (TL T0 ps (λ_=>true) ps.length)) →
  ∀ (listed:Array Bool) (a:Act) (w:World) (fuel:Nat),listed.size=l.length→(∀ j,j<l.length→(listed.getD j false=true↔j∈dn))→zv4 l M listed→R C bs ⟨TL T0 ps (λk=>listed.getD k false) ps.length,H⟩ a w →
  (∀ (listed':Array Bool) (a':Act),listed'.size=l.length→(∀ j,j<l.length→(listed'.getD j false=true↔j∈F.reverse++dn))→zv4 l M listed'→R C bs ⟨TL T0 ps (λk=>listed'.getD k false) ps.length,H⟩ a' w→wpAny P .any l.toArray (QR C Q) fuel listed' a' w) →
  wpAny P .any l.toArray (QR C Q) (fuel+F.length) listed a w
 | [],dn,_,_,listed,a,w,fuel,hsz,hdn,hcl,hR,hk=>hk listed a hsz (by simpa using hdn) hcl hR
 | i::F,dn,hF,hI,listed,a,w,fuel,hsz,hdn,hcl,hR,hk=>by
  obtain ⟨⟨oi,f⟩,hF'⟩:=ziF hF;have hilt:=(yc.1 f.at_).1;have hips:i<ps.length:=by rw [hpn];exact f.lt
  have hpi:ps[i]? = some (ps[i].1,ps[i].2):=yC hips;have hoi:oi=ps[i].1:=by have:=hfst i _ _ hpi;rw [f.at_] at this;simpa using this
  have hil:listed.getD i false=false:=by
   cases hb:listed.getD i false with
   | false=>rfl
   | true=>exact absurd ((hdn i hilt).1 hb) f.new
  have hedges:∀ e∈oi.after.toList,Region.binds .any e=true→listed.getD e.on false=true:=λe he hb=>by
   have:=ok.back i oi f.at_ e he hb;exact (hdn e.on (by omega)).2 (f.after e he hb)
  have hbef:=zg6 ok hcl f.at_ hedges;have hready:i∈Region.ready .any l.toArray listed:=zgX.2 ⟨oi,f.at_,by rw [zcM _ _ (by omega)];exact hil,hedges⟩;have hlook:∀ t∈oi.looksAt l.toArray,look t (TL T0 ps (λk=>decide (k<i)) ps.length)=look t (TL T0 ps (λk=>listed.getD k false) ps.length):=by
   intro t ht;refine zeC (λk ok' vk hk hd=>?_) ps.length;have hlk:=hfst k ok' vk hk;rcases Nat.lt_trichotomy k i with hki | hki | hki
   ·simp only [hki,decide_true];rcases ok.pair k i ok' _ hki hlk f.at_ with hb | hap
    ·exact (hbef k hb).symm
    ·exact absurd ht ((Oper.apart_spec hap).1 t hd)
   ·subst hki;simp only [Nat.lt_irrefl,decide_false];exact hil.symm
   ·simp only [show ¬ k<i by omega,decide_false];cases hb:listed.getD k false with
    | false=>rfl
    | true=>
     exfalso;rcases ok.pair i k _ ok' hki f.at_ hlk with hb2 | hap
     ·have:=hcl k (by have:=(yc.1 hlk).1;omega) hb i hb2;rw [hil] at this;cases this
     ·exact (Oper.apart_spec hap).2.2 t hd ht
  have hyi:=(hy i _ _ hpi).congr (by rw [← hoi];exact hlook);rw [← hoi] at hyi;obtain ⟨hdst,hyi⟩:=hyi;have hfree:=f.free;have hgd:oi.guard=none∧zal oi=false:=by
   unfold zoc at hfree;split at hfree
   ·rename_i hg _ ho;exact ⟨hg,by simp [zal,ho]⟩
   ·rename_i hg _ ho;exact ⟨hg,by simp [zal,ho]⟩
   ·rename_i hg _ ho;exact ⟨hg,by simp [zal,ho]⟩
   ·cases hfree
  have hop:OpV P oi (ev (TL T0 ps (λk=>listed.getD k false) ps.length)) H ps[i].2:=by
   rcases hyi with ⟨_,_,hv⟩ | ⟨_,⟨t,r,q,_⟩,_⟩ | ⟨_,j,want,g,hg,_⟩ | ⟨_,t,r,y,d,k,q,_⟩
   ·exact hv
   ·simp [zal,q] at hgd
   ·rw [hgd.1] at hg;cases hg
   ·simp [zal,q] at hgd
  have hints:ziu oi (TL T0 ps (λk=>listed.getD k false) ps.length):=by
   have h0:=hI i (by simp) oi f.at_;unfold ziu at h0 ⊢;split
   ·rename_i op t x y u hq;simp only [hq] at h0;have hsame:∀ z,(z=x∨z=y)→look z (TL T0 ps (λ_=>true) ps.length)=look z (TL T0 ps (λk=>listed.getD k false) ps.length):=by
     intro z hz;have hz':z∈oi.looksAt l.toArray:=by
      simp only [Oper.looksAt,yr,List.mem_filterMap];left;rcases hz with rfl | rfl
      ·exact ⟨.tmp z,by simp [hq,Op.operands],rfl⟩
      ·exact ⟨.tmp z,by simp [hq,Op.operands],rfl⟩
     rw [← hlook z hz'];refine zeC (λk ok' vk hk hd=>?_) ps.length;have hlk:=hfst k ok' vk hk;by_cases hki:k<i
     ·simp [hki]
     ·exfalso;have:=f.ops op t x y u hq k ok' hlk hki;rcases hz with rfl | rfl
      ·exact this.1 hd
      ·exact this.2 hd
    rw [← hsame x (.inl rfl),← hsame y (.inr rfl)];exact h0
   ·trivial
  have hrun:=hop.run C.A0 bs w a.eval hR.mem (λx _ y hx=>hR.ev hx) (λ_=>rfl) (λ_=>rfl);obtain ⟨u,⟨_,hu⟩,hall⟩:=zqt hfree hints (f:=a.eval) (λx b _ hx=>by
   have:=zr.1 (hR.ev (x:=.tmp x) (by simpa [ev] using hx));exact this) hrun
  have hyields:Yields P l.toArray oi u a:=.inl ⟨by simp [Region.wanted,hgd.1],hall⟩;have hselA:∀ (j:Nat) (o:Oper) cs b,l.toArray[j]? = some o→o.op≠.select cs b:=λj o cs b hj hs=>by
   have:=(yq.1 hsel) o (by simp at hj;exact yx hj);simp [znp,hs] at this
  rw [show fuel+(i::F).length=fuel+F.length+1 by simp;omega];refine wpAny_first (i:=i) (oi:=oi) (v:=u) (by simpa using f.at_) hselA (λc a w h=>h.elim (λ⟨bs',s',hq,_⟩=>absurd hq (hQ c s')) (λh=>(by cases h.1))) (fuel+F.length) listed a w (λj oj hj hji hjl hw=>?_) hready hyields ?_
  ·simp only [List.getElem?_toArray] at hj;have hjlt:=(yc.1 hj).1;rw [zcM _ _ (by omega)] at hjl;exact f.apart j oj hj hji (λh=>by rw [(hdn j hjlt).2 h] at hjl;cases hjl) (λe he hb=>hw e (by simpa using he) hb)
  ·have hget:∀ k,(listed.setIfInBounds i true).getD k false=if k=i then true else listed.getD k false:=λk=>zaC _ _ _ _ (by omega)
   refine zkA hQ hsel hfst hpn ok hy F (i::dn) hF' (λj hj=>hI j (by simp [hj])) (listed.setIfInBounds i true) _ w fuel (by simpa using hsz) (λj hj=>?_) ?_ ?_ (λl' a' q1 q2 q3 q4=>hk l' a' q1 (λj hj=>by rw [q2 j hj];simp [or_assoc,or_left_comm]) q3 q4)
   ·rw [hget];split
    ·rename_i e;simp [e]
    ·rename_i e;rw [hdn j hj];simp [e]
   ·intro j hj hjl i' hi';rw [hget] at hjl ⊢;split
    ·rfl
    ·split at hjl <;> rename_i hji
     ·subst hji;exact hbef i' hi'
     ·exact hcl j hj hjl i' hi'
   ·have hput:=hR.put (Fr.refl _ _) oi.dst hdst hu;rw [St.put_eq] at hput;refine hput.weaken λt v hv=>?_
    rw [← hv,zth ok hfst hsz hcl hpi hil hbef t,← hoi]
inductive Ints (l:List Oper) (T:List (Nat×V)):List Nat→Prop
 | nil:Ints l T []
 | move {i:Nat} {F:List Nat} {o:Oper} {x:Operand}:l[i]? = some o→o.op = .move x→Ints l T F→Ints l T (i::F)
 | ints {i:Nat} {F:List Nat} {o:Oper} {op:BinOp} {t u:TypeId} {x y:Tmp} {a b:Int}:l[i]? = some o→o.op = .binOp op t (.tmp x) (.tmp y) u→look x T=some (.d (.int a))→look y T=some (.d (.int b))→Ints l T F→Ints l T (i::F)
theorem Ints.all {l T T1 n} (hw:Wk n T1 T):∀ {F:List Nat},Ints l T F→∀ i∈F,∀ o,l[i]? = some o→ziu o T1
 | _,.nil,i,hi,_,_=>by simp at hi
 | _,.move h1 h2 h3,i,hi,o,ho=>by
  rcases yI.1 hi with rfl | hi
  ·rw [h1] at ho;cases ho;simp [ziu,h2]
  ·exact h3.all hw i hi o ho
 | _,.ints h1 h2 h3 h4 h5,i,hi,o,ho=>by
  rcases yI.1 hi with rfl | hi
  ·rw [h1] at ho;cases ho;simp only [ziu,h2];exact ⟨_,_,(hw _ _ h3).resolve_right (λh=>by cases h.1),(hw _ _ h4).resolve_right (λh=>by cases h.1)⟩
  ·exact h5.all hw i hi o ho
theorem Tri.drawF {P C Q s id l} (n F) (hm:P.follows .mixedOrders=true) (hok:zrB l n F=true) (hf:(zf5 l n F []&&l.all (λo=>!znp o)&&(l.take n).all (λo=>!zal o)&&decide (n≤l.length)&&zh4 (l.take n)&&zgg (l.take n)&&((List.range n).filter (λi=>!F.contains i)).length+F.length==n)=true)
  (h:TriQ P C.n l.toArray s.H (l.take n) [] s.T (λ_ T=>Ints l T F∧TriL P C l.toArray (l.drop n) (zdh Q) ⟨T,s.H⟩)):Tri P C (.region id l.toArray true) Q s:=by
 simp only [yd,yg,beq_iff_eq] at hf;obtain ⟨⟨⟨⟨⟨⟨hf1,hf2⟩,hf3⟩,hn⟩,ha1⟩,ha2⟩,hcount⟩:=hf;refine Tri.mono (Q:=zdh Q) ⟨λbs a w hR=>?_⟩ (λe s hq=>by cases e <;> first | exact hq.elim | exact hq);obtain ⟨M,ok⟩:=zmU hok;obtain ⟨qs,hq1,hq2,T',⟨hI,hK⟩,hq3⟩:=zt5.path (T0:=s.T) (l.take n) [] s.T [] (λ_=>rfl) h.run;simp only [yU,un,uk] at hq2 hq3 hK hI;have hlen:qs.length=n:=by have:=congrArg List.length hq1;simp at this;omega
 have hl:l=qs.map (·.1)++l.drop n:=by rw [hq1,uB]
 have hfst:∀ (i:Nat) (o:Oper) (v:V),qs[i]? = some (o,v)→l[i]? = some o:=λi o v hi=>by
  rw [hl,yh (by simpa using (yc.1 hi).1)];simp [hi]
 have hnos:∀ o∈qs.map (·.1),zal o=false:=λo ho=>by rw [hq1] at ho;simpa using (yq.1 hf3) o ho
 have hevs:zvc qs=[]:=by
  unfold zvc;rw [List.flatMap_eq_nil_iff];intro p hp;exact zfF (hnos p.1 (yZ.2 ⟨p,hp,rfl⟩))
 have hal:zh4 (qs.map (·.1))=true∧zgg (qs.map (·.1))=true:=by rw [hq1];exact ⟨ha1,ha2⟩
 have hf0:∀ i,(Array.replicate l.toArray.size false).getD i false=false:=λi=>by
  simp only [yN,Array.getElem?_replicate];split <;> rfl
 refine wp_region_any hm ?_;have hend:TriL P C l.toArray (l.drop n) (zdh Q) ⟨zvA (zvF (zvc qs)) s.H.length (TL s.T qs (λ_=>true) qs.length),s.H++zjr P (zvc qs)⟩:=by
  have e:zjr P (zvc qs)=[]:=by rw [hevs];rfl
  rw [e,hevs,y8];exact TriL.wk hq3 hK
 have hFn:∀ i∈F,i<n:=by
  have:∀ (F dn:List Nat),zf5 l n F dn=true→∀ i∈F,i<n:=by
   intro F
   induction F with
   | nil=>intro dn _;simp
   | cons i F ih=>
    intro dn h j hj;obtain ⟨⟨oi,f⟩,h'⟩:=ziF h;rcases yI.1 hj with rfl | hj
    ·exact f.lt
    ·exact ih _ h' j hj
  exact this F [] hf1
 have hR2:R C bs ⟨TL s.T qs (λk=>(Array.replicate l.toArray.size false).getD k false) qs.length,s.H⟩ a { w with drawn:=w.drawn+1 }:=by
  refine hR.drew.weaken λt v hv=>?_
  rw [← hv];have:TL s.T qs (λk=>(Array.replicate l.toArray.size false).getD k false) qs.length=TL s.T qs (λk=>(Array.replicate l.toArray.size false).getD k false) 0:=by
   have:=zfE (T:=s.T) (ps:=qs) (p:=λk=>(Array.replicate l.toArray.size false).getD k false) (m:=0) (λi _=>hf0 i) qs.length;simpa using this
  rw [this];rfl
 have key:=zkA (P:=P) (C:=C) (bs:=bs) (H:=s.H) (T0:=s.T) (Q:=zdh Q) (ps:=qs) (n:=n) (λc s h=>h) hf2 hfst hlen ok hq2 F [] hf1 (hI.all hq3) (Array.replicate l.toArray.size false) a { w with drawn:=w.drawn+1 } (l.length - F.length) (by simp)
  (λj _=>by rw [hf0 j];simp) (λj _ hj=>by rw [hf0 j] at hj;cases hj) hR2 (λlisted' a' q1 q2 q3 q4=>?_)
 ·have e:l.toArray.size=l.length - F.length+F.length:=by simp;omega
  have key':wpAny P .any l.toArray (QR C (zdh Q)) l.toArray.size (Array.replicate l.toArray.size false) a { w with drawn:=w.drawn+1 }:=by
   conv=>arg 5;rw [e]
   exact key
  exact key'
 ·have hq2':∀ j,j<l.length→(listed'.getD j false=true↔j∈F):=λj hj=>by rw [q2 j hj];simp
  have ok':zwS l qs.length M F:=by rw [hlen];exact ok
  refine zjn (P:=P) (C:=C) (bs:=bs) (H:=s.H) (T0:=s.T) (Q:=zdh Q) (ps:=qs) (l2:=l.drop n) (M:=M) (L0:=F) (l:=l) hl ok' (λi o v hi=>hq2 i o v hi) hal.1 hal.2 hend _ listed' a' _ q1
   (λi hi=>(hq2' i (by have:=hFn i hi;omega)).2 hi) (λi hi=>?_) q3 ?_ ?_
  ·by_cases hil:i<l.length
   ·cases hb:listed'.getD i false with
    | false=>rfl
    | true=>have:=hFn i ((hq2' i hil).1 hb);omega
   ·simp [yN,show listed'[i]? = none by simp;omega]
  ·have hcnt:((List.range qs.length).filter λi=>!listed'.getD i false).length=qs.length - F.length:=by
    have e1:((List.range qs.length).filter λi=>!listed'.getD i false)=(List.range qs.length).filter (λi=>!F.contains i):=by
     refine List.filter_congr λi hi=>?_
     have hi':=y7.1 hi;have:=hq2' i (by omega);cases hb:listed'.getD i false
     ·have hno:i∉F:=λh=>by rw [this.2 h] at hb;cases hb
      simp [hno]
     ·have hyes:=this.1 hb;simp [hyes]
    rw [e1];rw [hlen];omega
   rw [hcnt,hlen,ua];omega
  ·refine ⟨λ_=>none,?_,⟨λi b h=>(by cases h),λi o v t r h1 h2 _ _=>?_,λi j b h=>(by cases h),λi b h=>(by cases h)⟩,λi b h=>(by cases h)⟩
   ·exact q4.zuO (A:=(C.plus λ_=>none).A0) (Fr.refl ze _) (λb _ hb=>hb.elim (λh=>h) (λ⟨i,h⟩=>(by cases h))) (λb hb=>hb.elim (q4.own.zt4 b) (λ⟨i,h⟩=>(by cases h)))
   ·have:=hnos o (yZ.2 ⟨(o,v),yx h1,rfl⟩);simp [zal,h2] at this
end
section
structure GMap (κ β:Type) where
 es:List (Nat×κ×β)
 clock:Nat
 wf:wfM (es.map (·.1)) clock
theorem GMap.wfm {κ β} (m:GMap κ β):wfM (m.es.map (·.1)) m.clock:=m.wf
def GMap.empty {κ β:Type}:GMap κ β:=⟨[],0,⟨by simp,by simp⟩⟩
theorem zj5 {κ β:Type} {es:List (Nat×κ×β)} {cl} (h:wfM (es.map (·.1)) cl) (i) (v):wfM ((es.modify i (λe=>(e.1,e.2.1,v))).map (·.1)) cl:=by
 have e:(es.modify i (λe=>(e.1,e.2.1,v))).map (·.1)=es.map (·.1):=by
  apply ud
  grind
 grind
theorem znQ {κ β:Type} {es} {cl} (h:wfM (es.map (·.1)) cl) (k:κ) (v:β):wfM ((es++[(cl,k,v)]).map (·.1)) (cl+1):=by
 simp only [uw,yV,List.map_nil];refine ⟨uV.2 ⟨h.nd,by simp,λa e b d=>?_⟩,λx c=>?_⟩
 ·simp only [yG] at d;subst d;exact Nat.ne_of_lt (h.lt a e)
 ·rcases yr.1 c with c | c
  ·exact Nat.lt_succ_of_lt (h.lt x c)
  grind
theorem zma {κ β:Type} {es:List (Nat×κ×β)} {cl} (h:wfM (es.map (·.1)) cl) (i):wfM ((es.eraseIdx i).map (·.1)) cl:=by
 have a:((es.eraseIdx i).map (·.1)).Sublist (es.map (·.1)):=(List.eraseIdx_sublist es i).map _;exact ⟨a.nodup h.nd,λx b=>h.lt x (a.subset b)⟩
def zuR {κ β:Type} [DecidableEq κ] (k:κ):List (Nat×κ×β)→Option (Nat×β)
 | []=>none
 | e::es=>if k=e.2.1 then some (0,e.2.2) else (zuR k es).map λp=>(p.1+1,p.2)
def GMap.get? {κ β:Type} [DecidableEq κ] (m:GMap κ β) (k:κ):Option β:=(zuR k m.es).map (·.2)
def GMap.put {κ β:Type} [DecidableEq κ] (m:GMap κ β) (k:κ) (v:β):GMap κ β:=match zuR k m.es with
 | some (i,_)=>⟨m.es.modify i (λe=>(e.1,e.2.1,v)),m.clock,zj5 m.wf i v⟩
 | none=>⟨m.es++[(m.clock,k,v)],m.clock+1,znQ m.wf k v⟩
def GMap.del {κ β:Type} [DecidableEq κ] (m:GMap κ β) (k:κ):GMap κ β:=match zuR k m.es with
 | some (i,_)=>⟨m.es.eraseIdx i,m.clock,zma m.wf i⟩
 | none=>m
def GMap.blk {κ β:Type} (ke:κ→Value) (ve:β→D) (m:GMap κ β):Blk:=.mp (m.es.map (·.1)) (m.es.map λe=>ke e.2.1) (m.es.map λe=>ve e.2.2) m.clock
def GMap.dat {κ β:Type} (ke:κ→Value) (ve:β→D) (m:GMap κ β):D:=.mp (m.es.map λe=>ke e.2.1) (m.es.map λe=>ve e.2.2)
variable [ztS] [Drw]
structure IsV (d:D) (v:Value):Prop where
 eq:∀ (A:Nat→Prop) (w:World) (u:Value),d.rep A w u↔u=v
theorem IsV.val (v):IsV (.val v) v:=⟨λA w u=>by grind [D.rep]⟩
theorem IsV.struct (vs):IsV (zis vs) (.agg vs.toArray):=⟨λA w u=>⟨ze6,λh=>by
 subst h;refine ⟨vs.toArray,rfl,?_⟩
 induction vs with
 | nil=>simp [D.reps]
 | cons x xs ih=>simp only [yV,D.reps,D.rep];grind⟩⟩
theorem IsV.ev {A w bs H d v u} (h:IsV d v) (hu:V.rep A w bs H (.d d) u):u=v:=(h.eq A w u).1 (by grind [V.rep])
structure KeyT (P:Program) (kt:TypeId) {κ:Type} [DecidableEq κ] (ke:κ→Value):Prop where
 check:∀ (b:Bool) (k:κ) (w:World),(Instr.checkKey b 10000 kt (ke k)).run P w = .ok () w
 find:∀ {β:Type} (k:κ) (l:List (Nat×κ×β)) (es:List MapEntry) (w:World),es.map (·.key)=l.map (λe=>ke e.2.1)→(Instr.findKey kt (ke k) es).run P w = .ok ((zuR k l).bind λp=>(es[p.1]?).map λe=>(p.1,e.val)) w
 bits:∀ k:κ,Instr.sameBits 10000 (ke k) (ke k)=true
theorem zf4 {d} {k}:∀ (es) (i),Instr.findNow d k es i=(Instr.findNow d k es 0).map (λo=>o.map λp=>(p.1+i,p.2))
 | [],i=>by simp [Instr.findNow]
 | e::es,i=>by
  simp only [Instr.findNow];split
  ·simp
  ·rw [zf4 es (i+1),zf4 es (0+1)];cases Instr.findNow d k es 0 with
   | none=>rfl
   | some o=>cases o <;> simp;omega
  ·rfl
theorem zgL {κ β} [DecidableEq κ] {d} {ke:κ→Value} (hs:∀ a b,Instr.sameNow d (ke a) (ke b)=some (decide (a=b))) (k):∀ (l:List (Nat×κ×β)) (es),es.map (·.key)=l.map (λe=>ke e.2.1) →
  Instr.findNow d (ke k) es 0=some ((zuR k l).bind λp=>(es[p.1]?).map λe=>(p.1,e.val))
 | [],es,h=>by
  have:es=[]:=by simp_all
  grind [Instr.findNow,zuR]
 | x::l,[],h=>by simp at h
 | x::l,e::es,h=>by
  simp only [yV,List.cons.injEq] at h;simp only [Instr.findNow,h.1,hs,zuR];by_cases c:k=x.2.1
  ·simp [c]
  ·simp only [c];rw [zf4,zgL hs k l es h.2];cases zuR k l with
   | none=>simp
   | some p=>simp;rfl
theorem KeyT.str {P kt} (h:P.underlying kt=some .string):KeyT P kt (λl:List UInt8=>Value.string ⟨l.toArray⟩) where
 check b k w:=MapKept.run_checkKey h (k:=.string ⟨k.toArray⟩) trivial b 9999
 find k l e w c:=MapKept.run_findKey h (zgL (d:=.string) (ke:=λl =>Value.string ⟨l.toArray⟩) (λa b=>by grind [Instr.sameNow,beq_toListBytes,zjZ]) k l e c)
 bits k:=by grind [Instr.sameBits,beq_toListBytes]
theorem KeyT.int {P kt} (h:P.underlying kt=some (.int .i64)):KeyT P kt (λn =>Value.int .i64 n) where
 check b k w:=MapKept.run_checkKey h (k:=.int .i64 k) rfl b 9999
 find k l e w c:=MapKept.run_findKey h (zgL (d:=.int .i64) (ke:=λn =>Value.int .i64 n) (λa b=>by rfl) k l e c)
 bits k:=by simp [Instr.sameBits]
theorem R.adoptK {C:Ctx} {A} {bs} {s} {a} {w} {b} {o} (k0) (h:R { C with A0:=λc=>A c∨c=b } bs s a w) (hb:w.heap[b]? = some o) (hA:¬ A b)
  (hlo:C.w0.heap.size≤b) (hk0:k0.rep (Own A (bs++[some b])) w (bs++[some b]) (s.H++[k0]) s.H.length):R { C with A0:=A } (bs++[some b]) ⟨s.T,s.H++[k0]⟩ a w:=by
 have hbl:=(yn.1 hb).1;have hnb:some b∉bs:=λhc=>h.own.not b hc (.inr rfl)
 have hsub:∀ c,c<w.heap.size→Own A (bs++[some b]) c→Own (λc=>A c∨c=b) bs c:=λc _ hc=>by
  rcases hc with hc | hc
  ·exact .inl (.inl hc)
  ·rcases yr.1 hc with hc | hc
   ·exact .inr hc
   ·simp only [yG,yj] at hc;exact .inl (.inr hc)
 have hlen:=h.len;refine ⟨⟨λi j c hi hj=>?_,λc hc=>?_,λc hc=>?_,λc hc=>h.own.zt4 c (.inl hc),h.own.glob.fr (Fr.refl ze w) (λ_ x=>x.elim) hsub⟩,by grind,λi k hk=>?_,λu v hv=>⟨(h.tmp u v hv).1,V.zuM hlen hsub v _ (h.tmp u v hv).2⟩,h.defers,h.size,h.fr,λc hc=>?_,λp hp=>⟨(h.gh p hp).1,V.zuM hlen hsub p.1 _ (h.gh p hp).2⟩⟩
 ·rcases uF i bs.length with hib | hib
  ·rw [yh hib] at hi;rcases uF j bs.length with hjb | hjb
   ·rw [yh hjb] at hj;exact h.own.apart i j c hi hj
   grind
  grind
 ·rcases yr.1 hc with hc | hc
  ·exact λhA'=>h.own.not c hc (.inl hA')
  ·simp only [yG,yj] at hc;subst hc;exact hA
 ·rcases yr.1 hc with hc | hc
  ·exact h.own.lt c hc
  ·simp only [yG,yj] at hc;subst hc;exact hbl
 ·rcases uF i s.H.length with hi | hi
  ·simp only at hk;rw [yh hi] at hk;exact Blk.zuM hlen hsub i k (h.blk i k hk)
  ·simp only at hk;rw [yF hi] at hk;have e1:i - s.H.length=0:=by have:=(yc.1 hk).1;simp at this;omega
   have e2:i=s.H.length:=by omega
   rw [e1] at hk;simp at hk;subst hk;subst e2;exact hk0
 ·rcases yr.1 hc with hc | hc
  ·exact h.new c hc
  ·simp only [yG,yj] at hc;subst hc;exact .inr hlo
theorem R.newObj {C} {bs} {T} {H} {a} {w} (h:R C bs ⟨T,H⟩ a w) (o) (k) (hk:k.rep (Own C.A0 (bs++[some w.heap.size])) (w.alloc o) (bs++[some w.heap.size]) (H++[k]) H.length) :
  R C (bs++[some w.heap.size]) ⟨T,H++[k]⟩ a (w.alloc o):=by
 have f:Fr ze w (w.alloc o):=⟨rfl,rfl,rfl,by simp,λb d _=>Below.heap_alloc w _ b d,λ_=>yk _⟩
 have i:¬ C.A0 w.heap.size:=λj=>absurd (h.own.zt4 _ j) (by omega)
 have l :=
  h.zuO (A:=λc=>C.A0 c∨c=w.heap.size) f (λb d g=>g.elim id (λe=>by omega)) (λb d=>by
   rcases d with d | rfl
   ·exact yD (h.own.zt4 b d) f.size
   ·simp)
 exact R.adoptK (C:=C) k l (heap_alloc_new w _) i h.fr.size hk
section
variable {P:Program} {C:Ctx} {ops:Array Oper} {o:Oper} {rest:List Oper} {Q:Exit→St→Prop} {T:List (Nat×V)} {H:List Blk} {κ β:Type} [DecidableEq κ] {ke:κ→Value} {ve:β→D}
theorem TriL.makeMap {t} {d:Nat} (ke:κ→Value) (ve:β→D) (hg:o.guard=none) (ho:o.op = .makeMap t none) (hd:o.dst=some d) (hdn:Nat.blt d C.n=true)
  (kk:TriL P C ops rest Q ⟨(d,.mp H.length)::T,H++[GMap.blk ke ve GMap.empty]⟩):TriL P C ops (o::rest) Q ⟨T,H⟩:=by
 refine TriL.step hg (λg a w c=>?_) kk;have b:(execOp a.eval o).run P w = .ok (.value (.map (some w.heap.size))) (w.alloc (.map #[] 0)):=by
  simp only [execOp,ho,Option.map_none,Sem.run_bind,run_makeMap,Result.andThen_ok,Sem.run_pure]
 refine ⟨_,_,g++[some w.heap.size],b,.inl ⟨_,rfl,?_⟩⟩;have e:=c.len;have f:=c.newObj (.map #[] 0) (GMap.blk ke ve GMap.empty) (by
  grind [GMap.blk,GMap.empty,Blk.rep,heap_alloc_new,D.reps])
 have:=f.put (Fr.refl _ _) (some d) (by grind [zup]) (v:=.mp H.length) (u:=.map (some w.heap.size)) (by
  simp only [V.rep];simp only [uu,yP,GMap.blk]
  grind)
 rw [hd];exact this
theorem zfG:∀ {l} {k:κ} {i} {v:β},zuR k l=some (i,v)→∃ b,l[i]? = some (b,k,v)
 | [],_,_,_,h=>by grind [zuR]
 | e::l,k,i,v,h=>by
  simp only [zuR] at h;split at h
  ·grind
  ·cases a:zuR k l with
   | none=>grind
   | some p=>
    simp only [a] at h;obtain ⟨b,c⟩:=zfG a
    grind
theorem zp3 {A w d v} (hv:d.rep A w v):∀ {ds} {vs} (i),D.reps A w ds vs→D.reps A w (ds.set i d) (vs.set i v)
 | [],vs,i,h=>by grind [D.reps]
 | x::ds,vs,0,h=>by
  obtain ⟨u,c,rfl,b,a⟩:=h;simp only [List.set_cons_zero,D.reps]
  grind
 | x::ds,vs,i+1,h=>by
  obtain ⟨u,c,rfl,b,a⟩:=h;exact ⟨u,_,rfl,b,zp3 hv i a⟩
theorem zmV {A w}:∀ {ds} {vs} (i),D.reps A w ds vs→D.reps A w (ds.eraseIdx i) (vs.eraseIdx i)
 | [],vs,i,h=>by grind [D.reps]
 | x::ds,vs,0,h=>by
  simp only [D.reps] at h
  grind
 | x::ds,vs,i+1,h=>by
  obtain ⟨u,c,rfl,b,a⟩:=h;exact ⟨u,_,rfl,b,zmV i a⟩
theorem R.zw2 {bs a w i b} {m m'} (h:R C bs ⟨T,H⟩ a w) (hi:H[i]? = some (GMap.blk ke ve m)) (hb:bs[i]? = some (some b)) {es es' cl} (hh:w.heap[b]? = some (.map es cl))
  (h1:es'.toList.map (·.born)=m'.es.map (·.1)) (h2:es'.toList.map (·.key)=m'.es.map λe=>ke e.2.1) (h3:D.reps (Own C.A0 bs) w (m'.es.map λe=>ve e.2.2) (es'.toList.map (·.val))) :
  R C bs ⟨T,H.set i (GMap.blk ke ve m')⟩ a { w with heap:=w.heap.setIfInBounds b (.map es' m'.clock) }:=by
 have f:Fr (λc=>some b=some c) w { w with heap:=w.heap.setIfInBounds b (.map es' m'.clock) }:=
  ⟨rfl,rfl,rfl,by simp,λc _ l=>by grind,λ_=>yk _⟩
 have d:bs.set i (some b)=bs:=by
  refine ud λq=>?_
  grind
 have g:∀ c,some b=some c→Own C.A0 bs c:=λc k=>.inr (by grind)
 have j:=R.upd (y:=GMap.blk ke ve m') (c':=some b) h hi hb (by simp [GMap.blk,Compat]) f (.inl rfl) (by
  refine ⟨b,es',by grind,by grind,h1,h2,?_⟩;rw [d];exact D.zut f g (λc _ k=>k) _ _ h3)
 grind
theorem R.mapAt {bs a w i} {m} {v} (h:R C bs ⟨T,H⟩ a w) (hi:H[i]? = some (GMap.blk ke ve m)) (hv:V.rep (Own C.A0 bs) w bs H (.mp i) v) :
  ∃ b es,bs[i]? = some (some b)∧v = .map (some b)∧w.heap[b]? = some (.map es m.clock)∧es.toList.map (·.born)=m.es.map (·.1)∧es.toList.map (·.key)=m.es.map (λe=>ke e.2.1)∧D.reps (Own C.A0 bs) w (m.es.map λe=>ve e.2.2) (es.toList.map (·.val)):=by
 have c:=h.blk i _ hi;obtain ⟨b,es,f,g,j,k,d⟩:=c;simp only [V.rep,hi,GMap.blk] at hv
 grind
theorem TriL.zyk {t kt et x y z i} {m} {k} {dk} {v} (hg:o.guard=none) (ho:o.op = .mapUpdate t x y z∨o.op = .insert t x y z) (hd:o.dst=none) (ht:P.underlying t=some (.map kt et)) (hK:KeyT P kt ke)
  (hx:ev T x=some (.mp i)) (hi:H[i]? = some (GMap.blk ke ve m)) (hy:ev T y=some (.d dk)) (hz:ev T z=some (.d (ve v)))
  (kk:TriL P C ops rest Q ⟨T,H.set i (GMap.blk ke ve (m.put k v))⟩) (hkd:IsV dk (ke k):=by exact .val _):TriL P C ops (o::rest) Q ⟨T,H⟩:=by
 refine TriL.step hg (λbs a w hR=>?_) kk;obtain ⟨b,es,h1,h2,h3,h4,h5,h6⟩:=hR.mapAt hi (hR.ev hx);have e2:=hkd.ev (hR.ev hy);have e3:=hR.ev hz;simp only [V.rep] at e3;have hlen:es.toList.length=m.es.length:=by have:=congrArg List.length h4;grind
 have hfind:=hK.find k m.es es.toList w h5;cases hf:zuR k m.es with
 | none=>
  simp only [hf,Option.bind_none] at hfind;have hrun:(execOp a.eval o).run P w = .ok .skip { w with heap:=w.heap.setIfInBounds b (.map (es.push { key:=ke k,val:=a.eval z,born:=m.clock }) (m.clock+1)) }:=by
   rcases ho with ho | ho <;> simp only [execOp,ho,h2,e2,Instr.mapUpdate,Sem.run_bind,run_underlying ht,MapKept.run_getObj_map h3,hK.check,hfind,MapKept.run_setObj_map _ h3,Result.andThen_ok,Sem.run_pure]
  have hput:m.put k v=⟨m.es++[(m.clock,k,v)],m.clock+1,znQ m.wf k v⟩:=by grind [GMap.put]
  refine ⟨_,_,bs,hrun,.inr ⟨rfl,?_⟩⟩;rw [hd,hput];exact R.zw2 (m':=⟨m.es++[(m.clock,k,v)],m.clock+1,znQ m.wf k v⟩) hR hi h1 h3 (by simp [h4]) (by simp [h5]) (by
   simp only [uw,yV,List.map_nil,Array.toList_push];exact D.zuq h6 (by simp only [D.reps];grind))
 | some p=>
  obtain ⟨j,u⟩:=p;obtain ⟨bj,hj⟩:=zfG hf;have hjl:j<es.toList.length:=by rw [hlen];exact (yc.1 hj).1
  have hje:es[j]? = some es[j]:=um (by simpa using hjl);have hjk:es[j].key=ke k:=by
   have h:=congrArg (λl=>l[j]?) h5;simp only [y9,hj,y0,hje,yT,yj] at h;exact h
  simp only [hf,ya,y0,hje,yT] at hfind;have hrun:(execOp a.eval o).run P w = .ok .skip { w with heap:=w.heap.setIfInBounds b (.map (es.modify j λe=>{ e with key:=ke k,val:=a.eval z }) m.clock) }:=by
   rcases ho with ho | ho <;> simp only [execOp,ho,h2,e2,Instr.mapUpdate,Sem.run_bind,run_underlying ht,MapKept.run_getObj_map h3,hK.check,hfind,Result.andThen_ok,Sem.run_pure,hje,yT,yi,hjk,Instr.keyThatStays,hK.bits,if_true,MapKept.run_setObj_map _ h3]
  have hput:m.put k v=⟨m.es.modify j (λe=>(e.1,e.2.1,v)),m.clock,zj5 m.wf j v⟩:=by simp [GMap.put,hf]
  refine ⟨_,_,bs,hrun,.inr ⟨rfl,?_⟩⟩;rw [hd,hput];have hmod:∀ {α γ:Type} (l:List α) (f:α→α) (g:α→γ) (n:Nat),(∀ x,l[n]? = some x→g (f x)=g x)→(l.modify n f).map g=l.map g:=by
   intro α γ l f g n hfg;refine ud λq=>?_
   simp only [y9,List.getElem?_modify];by_cases hq:n=q
   ·subst hq;cases hl:l[n]? with
    | none=>simp
    | some x=>simp [hfg x hl]
   ·simp [hq]
  have hmods:∀ {α γ:Type} (l:List α) (f:α→α) (g:α→γ) (n:Nat) (c:γ),(∀ x,l[n]? = some x→g (f x)=c)→(l.modify n f).map g=(l.map g).set n c:=by
   intro α γ l f g n c hfg;refine ud λq=>?_
   simp only [y9,List.getElem?_modify,List.getElem?_set,yL];by_cases hq:n=q
   ·subst hq;cases hl:l[n]? with
    | none=>have:=List.getElem?_eq_none_iff.1 hl;simp;omega
    | some x=>have:=(yc.1 hl).1;simp [hfg x hl,this]
   ·simp [hq]
  exact R.zw2 (m':=⟨m.es.modify j (λe=>(e.1,e.2.1,v)),m.clock,zj5 m.wf j v⟩) hR hi h1 h3
   (by rw [Array.toList_modify];exact (hmod es.toList (λe=>{ e with key:=ke k,val:=a.eval z }) (·.born) j (λ_ _=>rfl)).trans (h4.trans (hmod m.es (λe=>(e.1,e.2.1,v)) (·.1) j (λ_ _=>rfl)).symm))
   (by rw [Array.toList_modify];exact (hmod es.toList (λe=>{ e with key:=ke k,val:=a.eval z }) (·.key) j (λx hx=>by rw [y0,hje] at hx;cases hx;exact hjk.symm)).trans (h5.trans (hmod m.es (λe=>(e.1,e.2.1,v)) (λe=>ke e.2.1) j (λ_ _=>rfl)).symm))
   (by
    rw [Array.toList_modify,hmods es.toList (λe=>{ e with key:=ke k,val:=a.eval z }) (·.val) j (a.eval z) (λ_ _=>rfl),hmods m.es (λe=>(e.1,e.2.1,v)) (λe=>ve e.2.2) j (ve v) (λ_ _=>rfl)];exact zp3 e3 j h6)
theorem TriL.zxH {t kt et x y z i} {m} {k} {dk} {v} (hg:o.guard=none) (ho:o.op = .mapUpdate t x y z) (hd:o.dst=none) (ht:P.underlying t=some (.map kt et)) (hK:KeyT P kt ke)
  (hx:ev T x=some (.mp i)) (hi:H[i]? = some (GMap.blk ke ve m)) (hy:ev T y=some (.d dk)) (hz:ev T z=some (.d (ve v)))
  (kk:TriL P C ops rest Q ⟨T,H.set i (GMap.blk ke ve (m.put k v))⟩) (hkd:IsV dk (ke k):=by exact .val _):TriL P C ops (o::rest) Q ⟨T,H⟩:=.zyk hg (.inl ho) hd ht hK hx hi hy hz kk hkd
theorem TriL.zyj {t kt et x y z i} {m} {k} {dk} {v} (hg:o.guard=none) (ho:o.op = .insert t x y z) (hd:o.dst=none) (ht:P.underlying t=some (.map kt et)) (hK:KeyT P kt ke)
  (hx:ev T x=some (.mp i)) (hi:H[i]? = some (GMap.blk ke ve m)) (hy:ev T y=some (.d dk)) (hz:ev T z=some (.d (ve v)))
  (kk:TriL P C ops rest Q ⟨T,H.set i (GMap.blk ke ve (m.put k v))⟩) (hkd:IsV dk (ke k):=by exact .val _):TriL P C ops (o::rest) Q ⟨T,H⟩:=.zyk hg (.inr ho) hd ht hK hx hi hy hz kk hkd
theorem TriL.mapDel {t kt et kt' x y i} {m} {k} {dk} (hg:o.guard=none) (ho:o.op = .call { callee:=.builtin .delete,args:=#[x,y],argTypes:=#[t,kt'] }) (hd:o.dst=none) (ht:P.underlying t=some (.map kt et)) (hK:KeyT P kt ke)
  (hx:ev T x=some (.mp i)) (hi:H[i]? = some (GMap.blk ke ve m)) (hy:ev T y=some (.d dk))
  (kk:TriL P C ops rest Q ⟨T,H.set i (GMap.blk ke ve (m.del k))⟩) (hkd:IsV dk (ke k):=by exact .val _):TriL P C ops (o::rest) Q ⟨T,H⟩:=by
 refine TriL.step hg (λbs a w hR=>?_) kk;obtain ⟨b,es,h1,h2,h3,h4,h5,h6⟩:=hR.mapAt hi (hR.ev hx);have e2:=hkd.ev (hR.ev hy);have hlen:es.toList.length=m.es.length:=by have:=congrArg List.length h4;grind
 have hfind:=hK.find k m.es es.toList w h5;cases hf:zuR k m.es with
 | none=>
  simp only [hf,Option.bind_none] at hfind;have hrun:(execOp a.eval o).run P w = .ok (.value (.tuple #[])) { w with heap:=w.heap.setIfInBounds b (.map es m.clock) }:=by
   simp [execOp,ho,resolve,invoke,builtin,Builtin.delete_,h2,e2,run_underlying ht,MapKept.run_getObj_map h3,hK.check,hfind,MapKept.run_setObj_map _ h3]
  have hput:m.del k=m:=by grind [GMap.del]
  refine ⟨_,_,bs,hrun,.inl ⟨_,rfl,?_⟩⟩;rw [hd,hput];exact R.zw2 (m':=m) hR hi h1 h3 h4 h5 h6
 | some p=>
  obtain ⟨j,u⟩:=p;obtain ⟨bj,hj⟩:=zfG hf;have hjl:j<es.toList.length:=by rw [hlen];exact (yc.1 hj).1
  have hje:es[j]? = some es[j]:=um (by simpa using hjl);simp only [hf,ya,y0,hje,yT] at hfind;have hrun:(execOp a.eval o).run P w = .ok (.value (.tuple #[])) { w with heap:=w.heap.setIfInBounds b (.map (es.eraseIdxIfInBounds j) m.clock) }:=by
   simp [execOp,ho,resolve,invoke,builtin,Builtin.delete_,h2,e2,run_underlying ht,MapKept.run_getObj_map h3,hK.check,hfind,MapKept.run_setObj_map _ h3]
  have hput:m.del k=⟨m.es.eraseIdx j,m.clock,zma m.wf j⟩:=by simp [GMap.del,hf]
  have hto:(es.eraseIdxIfInBounds j).toList=es.toList.eraseIdx j:=by
   unfold Array.eraseIdxIfInBounds;rw [dif_pos (by simpa using hjl),Array.toList_eraseIdx]
  have hmap:∀ {α γ:Type} (l:List α) (g:α→γ),(l.eraseIdx j).map g=(l.map g).eraseIdx j:=λl g=>by
   rw [List.eraseIdx_eq_take_drop_succ,List.eraseIdx_eq_take_drop_succ,uw,List.map_take,List.map_drop]
  refine ⟨_,_,bs,hrun,.inl ⟨_,rfl,?_⟩⟩;rw [hd,hput];exact R.zw2 (m':=⟨m.es.eraseIdx j,m.clock,zma m.wf j⟩) hR hi h1 h3 (by rw [hto,hmap,hmap,h4]) (by rw [hto,hmap,hmap,h5]) (by rw [hto,hmap,hmap];exact zmV j h6)
variable {e:Operand→Option V}
theorem OpV.zxk {t kt et x y i} {m} {k} {dk} {z} (ho:o.op = .lookup t x y false) (ht:P.underlying t=some (.map kt et)) (hK:KeyT P kt ke)
  (hx:e x=some (.mp i)) (hi:H[i]? = some (GMap.blk ke ve m)) (hy:e y=some (.d dk)) (hz:zv0 P et (ve z)) (hkd:IsV dk (ke k):=by exact .val _):OpV P o e H (.d (ve ((m.get? k).getD z))):=
 .of_same λA0 bs w f mm hf=>by
  have h0:=hf x (by grind [Op.operands]) _ hx;have e2:=hkd.ev (hf y (by grind [Op.operands]) _ hy);have hblk:=mm.blk i _ hi;simp only [GMap.blk,Blk.rep] at hblk;obtain ⟨b,es,h1,h3,h4,h5,h6⟩:=hblk;simp only [V.rep,hi,GMap.blk] at h0;obtain ⟨b',hb',h2⟩:=h0;obtain rfl:b=b':=by grind
  have hlen:es.toList.length=m.es.length:=by have:=congrArg List.length h4;grind
  have hfind:=hK.find k m.es es.toList w h5;obtain ⟨zv,hz1,hz2⟩:=hz.out;have hzr:(zeroValue et).run P w = .ok zv w:=by
   unfold zbC at hz1;cases hi:P.info? et with
   | none=>simp_all
   | some inf=>simp only [hi] at hz1;simp [zeroValue,typeInfo,hi,hz1]
  cases hf:zuR k m.es with
  | none=>
   simp only [hf,Option.bind_none] at hfind;refine ⟨zv,by simp [execOp,ho,h2,e2,Instr.lookup,run_underlying ht,MapKept.run_getObj_map h3,hK.check,hfind,hzr],?_⟩;simp only [V.rep,GMap.get?,hf,Option.map_none,Option.getD_none];simp_all
  | some p=>
   obtain ⟨j,u⟩:=p;obtain ⟨bj,hj⟩:=zfG hf;have hjl:j<es.toList.length:=by rw [hlen];exact (yc.1 hj).1
   have hje:es[j]? = some es[j]:=um (by simpa using hjl);simp only [hf,ya,y0,hje,yT] at hfind;refine ⟨es[j].val,by simp [execOp,ho,h2,e2,Instr.lookup,run_underlying ht,MapKept.run_getObj_map h3,hK.check,hfind],?_⟩;simp only [V.rep,GMap.get?,hf,yT,yi];obtain ⟨v,g1,g2⟩:=D.zuE h6 j (ve u) (by simp [y9,hj]);simp only [y9,y0,hje,yT,yj] at g1;rw [g1];exact g2
theorem OpV.zyi {t kt et x y} {m} {k} {dk} {z} (ho:o.op = .lookup t x y false) (ht:P.underlying t=some (.map kt et)) (hK:KeyT P kt ke)
  (hx:e x=some (.d (GMap.dat ke ve m))) (hy:e y=some (.d dk)) (hz:zv0 P et (ve z)) (hkd:IsV dk (ke k):=by exact .val _):OpV P o e H (.d (ve ((m.get? k).getD z))):=
 .of_same λA0 bs w f mm hf=>by
  have h0:=hf x (by grind [Op.operands]) _ hx;have e2:=hkd.ev (hf y (by grind [Op.operands]) _ hy);simp only [V.rep,GMap.dat,D.rep] at h0;obtain ⟨b,es,cl,h2,_,_,h3,h5,_,h6⟩:=h0;have hlen:es.toList.length=m.es.length:=by have:=congrArg List.length h5;grind
  have hfind:=hK.find k m.es es.toList w h5;obtain ⟨zv,hz1,hz2⟩:=hz.out;have hzr:(zeroValue et).run P w = .ok zv w:=by
   unfold zbC at hz1;cases hi:P.info? et with
   | none=>grind
   | some inf=>simp only [hi] at hz1;simp [zeroValue,typeInfo,hi,hz1]
  cases hf:zuR k m.es with
  | none=>
   simp only [hf,Option.bind_none] at hfind;refine ⟨zv,by simp [execOp,ho,h2,e2,Instr.lookup,run_underlying ht,MapKept.run_getObj_map h3,hK.check,hfind,hzr],?_⟩;simp only [V.rep,GMap.get?,hf,Option.map_none,Option.getD_none]
   grind
  | some p=>
   obtain ⟨j,u⟩:=p;obtain ⟨bj,hj⟩:=zfG hf;have hjl:j<es.toList.length:=by rw [hlen];exact (yc.1 hj).1
   have hje:es[j]? = some es[j]:=um (by simpa using hjl);simp only [hf,ya,y0,hje,yT] at hfind;refine ⟨es[j].val,by simp [execOp,ho,h2,e2,Instr.lookup,run_underlying ht,MapKept.run_getObj_map h3,hK.check,hfind],?_⟩;simp only [V.rep,GMap.get?,hf,yT,yi];obtain ⟨v,g1,g2⟩:=D.zuE h6 j (ve u) (by simp [y9,hj]);simp only [y9,y0,hje,yT,yj] at g1;rw [g1];exact g2
theorem OpV.mapLen {t kt et x i} {m} (ho:o.op = .call { callee:=.builtin .len,args:=#[x],argTypes:=#[t] }) (ht:P.underlying t=some (.map kt et)) (hx:e x=some (.mp i)) (hi:H[i]? = some (GMap.blk ke ve m)):OpV P o e H (.d (.int (m.es.length:Int))):=
 .of_same λs v w f j k=>by
  have g:=k x (by grind [Op.operands,Call.operands]) _ hx;have a:=j.blk i _ hi;obtain ⟨b,h,y,n,p,z,u⟩:=a;simp only [V.rep,hi] at g;obtain ⟨l,q,r⟩:=g;obtain rfl:b=l:=by grind
  have c:h.size=m.es.length:=by have:=congrArg List.length p;grind
  refine ⟨.int .i64 m.es.length,by simp [execOp,ho,resolve,invoke,builtin,Builtin.len_,r,run_underlying ht,MapKept.run_getObj_map n,goInt,c],zr.2 rfl⟩
theorem TriL.mapRange {t kt et} {x} {i d:Nat} {m} (hg:o.guard=none) (ho:o.op = .range t x) (hd:o.dst=some d) (hdn:Nat.blt d C.n=true) (ht:P.underlying t=some (.map kt et)) (hx:ev T x=some (.mp i)) (hi:H[i]? = some (GMap.blk ke ve m))
  (kk:TriL P C ops rest Q ⟨(d,.itp H.length)::T,H++[.it i m.clock [] m.clock]⟩):TriL P C ops (o::rest) Q ⟨T,H⟩:=by
 refine TriL.step hg (λbs a w hR=>?_) kk;obtain ⟨b,es,h1,h2,h3,_⟩:=hR.mapAt hi (hR.ev hx);have hrun:(execOp a.eval o).run P w = .ok (.value (.pointer (some ⟨w.heap.size,0,none⟩))) (w.alloc (.mapIter (some b) m.clock #[] m.clock)):=by
  simp only [execOp,ho,h2,Sem.run_bind,run_range_map w t kt et b es m.clock ht h3,Result.andThen_ok,Sem.run_pure]
 refine ⟨_,_,bs++[some w.heap.size],hrun,.inl ⟨_,rfl,?_⟩⟩;have hlen:=hR.len;have h2:=hR.newObj (.mapIter (some b) m.clock #[] m.clock) (.it i m.clock [] m.clock) (by
  grind [Blk.rep,List.getElem?_append_left,GMap.blk,heap_alloc_new])
 have:=h2.put (Fr.refl _ _) (some d) (by grind [zup]) (v:=.itp H.length) (u:=.pointer (some ⟨w.heap.size,0,none⟩)) (by
  simp only [V.rep];simp_all)
 rw [hd];exact this
def GMap.left {κ β:Type} (m:GMap κ β) (seen:List Nat):List (Nat×κ×β):=m.es.filter λe=>!seen.contains e.1
def GMap.old {κ β:Type} (m:GMap κ β) (since last:Nat):Bool:=m.es.all (λe=>decide (e.1<since))&&decide (since≤last)
theorem zlu (es) (seen:List Nat):(leftOf es seen.toArray).toList=es.toList.filter λe=>!seen.contains e.born:=by
 simp [leftOf]
theorem TriL.mapNext {x} {i j d since last:Nat} {seen} {m} (hg:o.guard=none) (ho:o.op = .next x false) (hd:o.dst=some d) (hdn:Nat.blt d C.n=true) (hx:ev T x=some (.itp i)) (hi:H[i]? = some (.it j since seen last)) (hj:H[j]? = some (GMap.blk ke ve m)) (hc:m.old since last=true)
  (hend:m.left seen=[]→TriL P C ops rest Q ⟨(d,.d (.tup [.bool false]))::T,H⟩)
  (hstep:∀ e∈m.left seen,TriL P C ops rest Q ⟨(d,.d (.tup [.bool true,.val (ke e.2.1),ve e.2.2]))::T,H.set i (.it j since (seen++[e.1]) m.clock)⟩):TriL P C ops (o::rest) Q ⟨T,H⟩:=by
 refine ⟨λbs a w hR=>wpList_plain hg λK hK=>?_⟩;have h0:=hR.ev hx;have hbi:=hR.blk i _ hi;have hbj:=hR.blk j _ hj;simp only [GMap.blk,Blk.rep] at hbj;obtain ⟨bm,es,g1,g2,g3,g4,g5⟩:=hbj;simp only [Blk.rep,hj,GMap.blk] at hbi;obtain ⟨b,bm',k1,k2,k3⟩:=hbi;obtain rfl:bm=bm':=by grind
 simp only [V.rep,hi] at h0;obtain ⟨b',hb',h2⟩:=h0;obtain rfl:b=b':=by grind
 simp only [GMap.old,yd,yq,yg] at hc;have hlen:es.toList.length=m.es.length:=by have:=congrArg List.length g3;grind
 have hget:∀ (q:Nat) (y:MapEntry),es.toList[q]? = some y→∃ e,m.es[q]? = some e∧e.1=y.born∧ke e.2.1=y.key:=by
  intro q y hy;have hq:q<m.es.length:=by grind
  refine ⟨m.es[q],yC hq,?_,?_⟩
  ·have h:=congrArg (λl=>l[q]?) g3
   grind [List.getElem?_eq_getElem,Option.some.injEq]
  ·have h:=congrArg (λl=>l[q]?) g4;simp only [y9,hy,yC hq,yT,yj] at h;exact h.symm
 have hnext:=run_next_at (P:=P) w o.type b bm since last seen.toArray es m.clock k3 g2 (λy hy=>by
  obtain ⟨q,hq⟩:=List.getElem?_of_mem hy;obtain ⟨e,he,h1,_⟩:=hget q y hq;rw [← h1];exact hc.1 e (yx he)) hc.2
 unfold Oper.wp;have hex:(execOp a.eval o).run P w=((Instr.next (.pointer (some ⟨b,0,none⟩)) false o.type).run P w).andThen λv w'=>.ok (.value v) w':=by
  simp only [execOp,ho,h2,Sem.run_bind,Sem.run_pure]
 rw [hex];rcases hnext with ⟨hz,hrun⟩ | ⟨y,hy,w1,hw1,hrun⟩
 ·rw [hrun];simp only [Result.andThen_ok,Oper.upon];refine hK _ _ ((hend ?_).run bs _ _ ?_)
  ·have hl0:(leftOf es seen.toArray).toList=[]:=y6 (by simpa using hz);rw [zlu] at hl0;rw [GMap.left,List.filter_eq_nil_iff];intro e he;obtain ⟨q,hq⟩:=List.getElem?_of_mem he;have hq2:q<es.toList.length:=by rw [hlen];exact (yc.1 hq).1
   obtain ⟨e',he',h1,_⟩:=hget q es.toList[q] (yC hq2);rw [hq] at he';cases he';have:=(List.filter_eq_nil_iff.1 hl0) es.toList[q] (ym hq2);rw [← h1] at this;exact this
  ·have:=hR.put (Fr.refl _ _) (some d) (by simpa [zup] using hdn) (v:=.d (.tup [.bool false])) (u:=.tuple #[.bool false]) (by simp only [V.rep,D.rep];exact ⟨#[.bool false],rfl,by simp [D.reps,D.rep]⟩);rw [hd];exact this
 ·rw [hrun];simp only [Result.andThen_ok,Oper.upon];rw [zlu] at hy;obtain ⟨hy1,hy2⟩:=List.mem_filter.1 hy;obtain ⟨q,hq⟩:=List.getElem?_of_mem hy1;obtain ⟨e,he,h1,h3⟩:=hget q y hq;have hmem:e∈m.left seen:=List.mem_filter.2 ⟨yx he,by rw [h1];exact hy2⟩;refine hK _ _ ((hstep e hmem).run bs _ _ ?_);have hR1:R C bs ⟨T,H⟩ a w1:=by
   rcases hw1 with rfl | rfl
   ·exact hR
   ·exact hR.drew
  have hheap:w1.heap=w.heap:=by rcases hw1 with rfl | rfl <;> rfl
  have hlt:b<w1.heap.size:=by rw [hheap];exact (yn.1 k3).1
  have hfr:Fr (λc=>some b=some c) w1 (ChangeMaps.setBlock w1 b (.mapIter (some bm) since (seen.toArray.push y.born) m.clock)):=
   ⟨rfl,rfl,rfl,by simp [ChangeMaps.setBlock],λc _ hno=>by simp [ChangeMaps.setBlock,Array.getElem?_setIfInBounds_ne (λe:b=c=>hno (by rw [e]))],λ_=>yk _⟩
  have hset:bs.set i (some b)=bs:=by
   refine ud λq=>?_
   by_cases hij:i=q
   ·subst hij;rw [yu (yc.1 k1).1,k1]
   ·rw [yw hij]
  have hij:i≠j:=λh=>by subst h;rw [hi] at hj;simp [GMap.blk] at hj
  have hupd:=R.upd (y:=.it j since (seen++[e.1]) m.clock) (c':=some b) hR1 hi k1 (by simp [Compat]) hfr (.inl rfl) (by
   simp only [Blk.rep];rw [yw hij,hj];simp only [GMap.blk];exact ⟨b,bm,by rw [hset];exact k1,by rw [hset];exact g1,by simp [ChangeMaps.setBlock,hlt,h1]⟩)
  rw [hset] at hupd;have hval:D.rep (Own C.A0 bs) (ChangeMaps.setBlock w1 b (.mapIter (some bm) since (seen.toArray.push y.born) m.clock)) (ve e.2.2) y.val:=by
   obtain ⟨v,f1,f2⟩:=D.zuE g5 q (ve e.2.2) (by simp [y9,he]);simp only [y9,hq,yT,yj] at f1;rw [f1];have hfr0:Fr ze w w1:=by
    rcases hw1 with rfl | rfl
    ·exact Fr.refl _ _
    ·exact (Fr.refl ze w).drew
   exact D.zuU (W:=λc=>some b=some c) hfr (λc hc=>.inr (by rw [← hc];exact yx k1)) (λ_ _ h=>h) _ _ (D.zvn hfr0 f2)
  have:=hupd.put (Fr.refl _ _) (some d) (by simpa [zup] using hdn) (v:=.d (.tup [.bool true,.val (ke e.2.1),ve e.2.2])) (u:=.tuple #[.bool true,y.key,y.val]) (by
   simp only [V.rep,D.rep];exact ⟨_,rfl,by simp only [D.reps,D.rep];exact ⟨_,_,rfl,rfl,_,_,rfl,h3.symm,_,[],rfl,hval,rfl⟩⟩)
  rw [hd];exact this
theorem OpV.entry {x i j since seen} {m} {en} (ho:o.op = .entry x) (hx:e x=some (.itp i)) (hi:H[i]? = some (.it j since (seen++[en.1]) m.clock)) (hj:H[j]? = some (GMap.blk ke ve m)) (he:en∈m.es) (hn:(m.es.map (·.1)).Nodup) :
  OpV P o e H (.d (.tup [.val (ke en.2.1),ve en.2.2])):=
 .of_same λA0 bs w f mm hf=>by
  have h0:=hf x (by grind [Op.operands]) _ hx;have hbi:=mm.blk i _ hi;have hbj:=mm.blk j _ hj;simp only [GMap.blk,Blk.rep] at hbj;obtain ⟨bm,es,g1,g2,g3,g4,g5⟩:=hbj;simp only [Blk.rep,hj,GMap.blk] at hbi;obtain ⟨b,bm',k1,k2,k3⟩:=hbi;obtain rfl:bm=bm':=by grind
  simp only [V.rep,hi] at h0;obtain ⟨b',hb',h2⟩:=h0;obtain rfl:b=b':=by grind
  obtain ⟨q,hq⟩:=List.getElem?_of_mem he;have hlen:es.toList.length=m.es.length:=by have:=congrArg List.length g3;grind
  have hql:q<es.toList.length:=by grind
  have hqe:=yC hql;have h1:es.toList[q].born=en.1:=by
   have h:=congrArg (λl=>l[q]?) g3;simpa only [y9,hq,hqe,yT,yj] using h
  have h3:es.toList[q].key=ke en.2.1:=by
   have h:=congrArg (λl=>l[q]?) g4
   grind
  have hent:=run_entry_at (P:=P) w b bm since seen.toArray es m.clock es.toList[q] (by rw [k3,h1];simp) g2 (ym hql) (by rw [g3];exact hn);obtain ⟨v,f1,f2⟩:=D.zuE g5 q (ve en.2.2) (by simp [y9,hq]);simp only [y9,hqe,yT,yj] at f1;refine ⟨.tuple #[es.toList[q].key,es.toList[q].val],by simp only [execOp,ho,h2,Sem.run_bind,hent,Result.andThen_ok,Sem.run_pure],?_⟩;simp only [V.rep,D.rep];exact ⟨_,rfl,by simp only [D.reps,D.rep];exact ⟨_,_,rfl,h3,_,[],rfl,by rw [f1];exact f2,rfl⟩⟩
noncomputable def zgC {α R:Type} (l:List α) (k:α→Option R):Option R:=open Classical in
 match l with
 | []=>none
 | a::l=>if ∀ b∈a::l,k b=k a then k a else none
theorem znc {α R} {l} {k:α→Option R} {r} (h:zgC l k=some r):∀ a∈l,k a=some r:=by
 unfold zgC at h
 grind
theorem znb {α R} {l} {k:α→Option R} {r} (hne:l≠[]) (h:∀ a∈l,k a=some r):zgC l k=some r:=by
 unfold zgC
 grind
noncomputable def stepM {κ β R:Type} (m:GMap κ β) (seen:List Nat) (since last:Nat) (over:Option R) (k:Nat×κ×β→Option R):Option R:=
 grd (m.old since last) (if (m.left seen).isEmpty=true then over else zgC (m.left seen) k)
theorem zs7 {κ β R} {m} {seen} {since last} {over} {k:Nat×κ×β→Option R} {r} (h:stepM m seen since last over k=some r) :
  m.old since last=true∧(m.left seen=[]→over=some r)∧∀ e∈m.left seen,k e=some r:=by
 obtain ⟨a,c⟩:=grdS h;refine ⟨a,λd=>by grind,λe b=>?_⟩
 grind [znc]
def evsV (e:Operand→Option V):List Operand→Option (List V)
 | []=>some []
 | x::xs=>match e x,evsV e xs with
  | some v,some vs=>some (v::vs)
  | _,_=>none
theorem ziE {A w bs f e}:∀ {xs} {vs},evsV e xs=some vs→(∀ x∈xs,∀ y,e x=some y→V.rep A w bs H y (f x))→V.reps A w bs H vs (xs.map f)
 | [],vs,h,_=>by grind [evsV,V.reps]
 | x::xs,vs,h,a=>by
  simp only [evsV] at h;split at h
  ·rename_i v c d g;cases h;exact ⟨_,_,rfl,a x (by simp) _ d,ziE g λy b=>a y (by simp [b])⟩
  grind
theorem OpV.zu8 {g cs vs} (ho:o.op = .makeFunc (.func g) #[] cs) (hc:evsV e cs.toList=some vs):OpV P o e H (.fn (.func g) [] vs):=
 .of_same λb bs w f _ a=>by
  refine ⟨.func (.func g) #[] (cs.map f),by simp [execOp,ho,Instr.makeFunc],?_⟩;refine ⟨#[],cs.map f,rfl,by simp [V.reps],?_⟩;have:=ziE (A:=Own b bs) (w:=w) (bs:=bs) (H:=H) (f:=f) hc (λx c=>a x (by grind [Op.operands]));simp_all
omit [DecidableEq κ] in
theorem Tri.zx3 {s c x y} (hc:ev s.T c=some (.d (.bool true))) (h:Tri P C x Q s):Tri P C (.cond c x y) Q s:=Tri.cond hc (λ_=>h) (λh=>(by cases h))
omit [DecidableEq κ] in
theorem Tri.zwX {s c x y} (hc:ev s.T c=some (.d (.bool false))) (h:Tri P C y Q s):Tri P C (.cond c x y) Q s:=Tri.cond hc (λh=>(by cases h)) (λ_=>h)
end
end
section
variable [ztS] [Drw]
def ziw (P:Program) (f:FuncId):Code:=match P.funcs[f]? with | some fn=>fn.body.getD .skip | none=>.skip
theorem zcL {P f fn c} (hf:P.funcs[f]? = some fn) (hb:fn.body=some c):ziw P f=c:=by simp [ziw,hf,hb]
theorem zhm {P n ops} {Q0 Q':Exit→Act→World→Prop} (hno:∀ e a w,Q0 e a w→e = .normal) {post} (hk:∀ a w,Q0 .normal a w→wpListIn Fence.wide n P ops Q' post a w) :
  ∀ (pre:List Oper) (a:Act) (w:World),wpList P ops Q0 pre a w→wpListIn Fence.wide n P ops Q' (pre++post) a w
 | [],a,w,h=>hk a w h
 | o::pre,a,w,h=>by
  simp only [wpList] at h;simp only [ug,wpListIn];split <;> rename_i hw
  ·rw [if_pos hw] at h;rcases h with h | ⟨_,a',w',h⟩
   ·refine ⟨λf _=>trivial,?_⟩;unfold Oper.wp at h;have hs:(o.semAt Fence.wide.round a.eval)=execOp a.eval o:=rfl;rw [hs];generalize (execOp a.eval o).run P w=r at h;have ih:=λa w h=>zhm hno hk pre a w h
    cases r with
    | ok nx w'=>
     cases nx with
     | value v=>exact ih _ _ h
     | skip=>exact ih _ _ h
     | defer d=>exact ih _ _ h
     | enter f args=>
      refine ⟨λhd=>by simp [Fence.wide] at hd,callsIn_wide.2 (Calls.mono h λe w'' he=>?_)⟩;cases e with
      | returned v=>exact ih _ _ he
      | panicked chain=>exact absurd (hno _ _ _ he) (by simp)
      | outgrown=>obtain ⟨a',w',he⟩:=he;exact absurd (hno _ _ _ he) (by simp)
     | row row args=>
      refine ⟨λhd=>by simp [Fence.wide] at hd,RowsIn.mono (R:=λv w''=>wpList P ops Q0 pre (a.put o.dst v) w'') (λc cs _=>?_) λv w'' he=>ih _ _ he⟩;obtain ⟨v,w1,r,s⟩:=h c cs;exact ⟨v,w1,r,stepsIn_wide.2 s⟩
     | _=>exact h.elim
    | halt x w'=>
     cases x with
     | panic v=>exact absurd (hno _ _ _ h) (by simp)
     | _=>exact h.elim
   ·exact absurd (hno _ _ _ h) (by simp)
  ·rw [if_neg hw] at h;exact ⟨λf _=>trivial,zhm hno hk pre _ _ h⟩
theorem zna {P f fn c xs A w vs} {Post:World→Prop} (hf:P.funcs[f]? = some fn) (hb:fn.body=some c) (hres:fn.results = #[]) (hn:xs.length≤fn.ntmps)
  (hA:∀ b,A b→b<w.heap.size) (hG:zdo A w) (hr:D.reps A w xs vs.toList)
  (h:Tri P ⟨A,ze,w,fn.ntmps,λa w'=>a.defers=[]∧Post w',[],0,[]⟩ c (λ_ _=>False) ⟨params 0 xs,[]⟩):Calls P f vs w (λe w'=>(∃ u,e = .returned u)∧Post w'):=by
 have hlen:=D.zub hr;refine calls_of_wp hf hb (Code.wp_mono ?_ (h.run [] _ w ?_))
 ·rintro e a' w' (⟨_,_,hq,_⟩ | ⟨rfl,hd,hp⟩)
  ·exact hq.elim
  ·refine ⟨hd,.tuple #[],?_,⟨_,rfl⟩,hp⟩;rw [zb1,hres];simp
 ·have hsz:(vs++Array.replicate (fn.ntmps - vs.size) undef).size=fn.ntmps:=by
   simp only [yt] at hlen;simp;omega
  refine ⟨⟨by simp,by simp,by simp,hA,hG.fr (Fr.refl ze w) (λ_ x=>x.elim) (λb _ hb=>hb.elim id (λh=>by simp at h))⟩,rfl,by simp,λt v hv=>?_,rfl,hsz,Fr.refl _ _,by simp,λp hp=>(by cases hp)⟩;have:=zdZ (A:=Own A []) (w:=w) (bs:=[]) (H:=[]) xs 0 vs.toList (vs++Array.replicate (fn.ntmps - vs.size) undef)
   (D.zut (Fr.refl ze w) (λ_ x=>x.elim) (λb _ hb=>hb.elim id (λh=>by simp at h)) xs _ hr)
   (λj hj=>by
    have hj':j<vs.size:=by simpa using hj
    simp [yN,Array.getElem?_append,hj',List.getD])
   (by rw [hsz];simp only [yt] at hlen;simp;omega) t v hv
  rw [hsz] at this;exact this
theorem zrD {P C fn y bs' s' a' w' ds} (hy:zfj ds=y) (hres:zwT P s' fn.results.toList ds) (hR:R C bs' s' a' w') :
  ∃ u,(results fn a'.tmps).run P w' = .ok u w'∧D.rep C.A0 w' y u:=by
 obtain ⟨us,hrun,hreps⟩:=zk0 hR fn.results.toList ds hres;have hl:=D.zub hreps;have hm:(fn.results.mapM (zel a'.tmps)).run P w' = .ok us.toArray w':=by
  rw [← Array.toArray_toList (xs:=fn.results),List.mapM_toArray];simp only [Sem.run_map,hrun,Result.andThen_ok]
 rw [zb1];simp only [Sem.run_bind,hm,Result.andThen_ok,Sem.run_pure];refine ⟨_,rfl,?_⟩
 match ds,us,hreps,hl with
 | [d],[u],hreps,_=>
  simp only [D.reps] at hreps;obtain ⟨_,_,e,h1,_⟩:=hreps;simp only [List.cons.injEq] at e;obtain ⟨rfl,_⟩:=e;simp only [zfj] at hy;subst hy;simpa using h1
 | [],[],hreps,_=>simp only [zfj] at hy;subst hy;simpa [D.rep] using hreps
 | d1::d2::ds,u1::u2::us,hreps,_=>
  simp only [zfj] at hy;subst hy;have hne:¬ (u1::u2::us).toArray.size=1:=by simp
  rw [dif_neg hne];simp only [D.rep];exact ⟨_,rfl,hreps⟩
def zg3 (A:Nat→Prop) (w:World) (y:D) (e:Ending) (w':World):Prop:=∃ u,e = .returned u∧Fr ze w w'∧D.rep A w' y u
theorem Pure.zxv {P f fn c xs y} (hf:P.funcs[f]? = some fn) (hb:fn.body=some c) (hn:xs.length≤fn.ntmps)
  (h:∀ A w,Tri P ⟨A,ze,w,fn.ntmps,λa' w'=>LeavesInM Fence.wide 0 P fn a'.tmps (zg3 A w y) a'.defers .returning w',[],0,[]⟩ c (retQ P fn.results y) ⟨params 0 xs,[]⟩):Pure P f xs y:=by
 refine ⟨λA w vs hA hG hr=>?_⟩;have hlen:=D.zub hr;have main:CallsIn Fence.wide 0 P f vs w (zg3 A w y):=by
  refine callsIn_of_wp_marks hf hb trivial (wpIn_wide.2 (Code.wp_mono ?_ ((h A w).run [] _ w ?_))) rfl
  ·rintro e a' w' (⟨bs',s',⟨he,ds,hy,hres⟩,hR⟩ | ⟨rfl,hE⟩)
   ·obtain ⟨u,hu1,hu2⟩:=zrD (P:=P) (fn:=fn) hy hres hR;have hfr:Fr ze w w':=hR.fr;have hd:a'.defers=[]:=hR.defers;have hL:LeavesInM Fence.wide 0 P fn a'.tmps (zg3 A w y) a'.defers .returning w':=by
     rw [hd];exact ⟨u,hu1,u,rfl,hfr,hu2⟩
    rcases he with rfl | rfl <;> exact hL
   ·exact hE
  ·have hsz:(vs++Array.replicate (fn.ntmps - vs.size) undef).size=fn.ntmps:=by
    simp only [yt] at hlen;simp;omega
   refine ⟨⟨by simp,by simp,by simp,hA,hG.fr (Fr.refl ze w) (λ_ x=>x.elim) (λb _ hb=>hb.elim id (λh=>by simp at h))⟩,rfl,by simp,λt v hv=>?_,rfl,hsz,Fr.refl _ _,by simp,λp hp=>(by cases hp)⟩;have:=zdZ (A:=Own A []) (w:=w) (bs:=[]) (H:=[]) xs 0 vs.toList (vs++Array.replicate (fn.ntmps - vs.size) undef)
    (D.zut (Fr.refl ze w) (λ_ x=>x.elim) (λb _ hb=>hb.elim id (λh=>by simp at h)) xs _ hr)
    (λj hj=>by
     have hj':j<vs.size:=by simpa using hj
     simp [yN,Array.getElem?_append,hj',List.getD])
    (by rw [hsz];simp only [yt] at hlen;simp;omega) t v hv
   rw [hsz] at this;exact this
 exact callsIn_wide.1 main
end
section
variable [ztS] [Drw]
def zhn (k:IntKind) (r:BitVec k.bits):Int:=k.wrap r.toNat
def band (k:IntKind) (x y:Int):Int:=zhn k (BitVec.ofInt k.bits x &&& BitVec.ofInt k.bits y)
def bor (k:IntKind) (x y:Int):Int:=zhn k (BitVec.ofInt k.bits x ||| BitVec.ofInt k.bits y)
def bxor (k:IntKind) (x y:Int):Int:=zhn k (BitVec.ofInt k.bits x ^^^ BitVec.ofInt k.bits y)
def bnot (k:IntKind) (x:Int):Int:=bxor k (if k.signed then -1 else k.max) x
section
variable {P:Program} {o:Oper} {e:Operand→Option V} {H:List Blk}
theorem OpV.band {t u x y k a b} (ho:o.op = .binOp .and t x y u) (hx:e x=some (.d (.val (.int k a)))) (hy:e y=some (.d (.val (.int k b)))):OpV P o e H (.d (.val (.int k (band k a b)))):=
 .zuZ ho hx hy λw=>by simp [binOp,Op.intBits,Go.Proofs.YtipkniadbkndfaaGreatDoor.band,zhn]
theorem OpV.bor {t u x y k a b} (ho:o.op = .binOp .or t x y u) (hx:e x=some (.d (.val (.int k a)))) (hy:e y=some (.d (.val (.int k b)))):OpV P o e H (.d (.val (.int k (bor k a b)))):=
 .zuZ ho hx hy λw=>by simp [binOp,Op.intBits,Go.Proofs.YtipkniadbkndfaaGreatDoor.bor,zhn]
theorem OpV.bnot {t x k a} (ho:o.op = .unOp .xor t x) (hx:e x=some (.d (.val (.int k a)))):OpV P o e H (.d (.val (.int k (bnot k a)))):=
 .of_same λ_ _ w f _ hf=>by
  have h1:=zr.1 (hf x (by simp [ho,Op.operands]) _ hx);exact ⟨.int k (Go.Proofs.YtipkniadbkndfaaGreatDoor.bnot k a),by simp [execOp,ho,h1,Op.unary,Op.intBits,Go.Proofs.YtipkniadbkndfaaGreatDoor.bnot,Go.Proofs.YtipkniadbkndfaaGreatDoor.bxor,zhn],zr.2 rfl⟩
theorem OpV.idxG {t el ty g N x i k j l a v} (ho:o.op = .indexAddr t x i) (hx:e x=some (.d (.val (.pointer (some ⟨g,0,none⟩))))) (hi:e i=some (.d (.val (.int j a)))) (hg:(g,Obj.cells (l.map (Value.int k)).toArray ty (0,0))∈ztS.gs)
  (ht:P.underlying t=some (.array N el)) (hs:(P.info? el).map (·.size)=some 1) (hN:N=l.length) (hv:Go.Proofs.YtipkniadbkndfaaGreatDoor.idx l a=some v):OpV P o e H (.d (.ref (.val (.int k v)))):=
 .of_same λA0 bs w f m hw=>by
  have h1:=zr.1 (hw x (by simp [ho,Op.operands]) _ hx);have h2:=zr.1 (hw i (by simp [ho,Op.operands]) _ hi);obtain ⟨n,rfl,hn,hvn⟩:=idxS hv;obtain ⟨hA,hh⟩:=m.own.glob _ hg;simp only at hA hh;cases hinf:P.info? el with
  | none=>simp [hinf] at hs
  | some inf=>
   have hsz:inf.size=1:=by simpa [hinf] using hs
   refine ⟨.pointer (some ⟨g,n,none⟩),?_,?_⟩
   ·have hlen:(0:Int)≤n∧(n:Int)<N:=by subst hN;omega
    simp only [execOp,ho,h1,h2,Instr.indexAt,asIntOf,Sem.run_bind,Sem.run_pure,Result.andThen_ok,run_underlying ht,Instr.sureAddr];rw [if_pos hlen];simp [sizeOf,typeInfo,hinf,hsz,Addr.add_lit]
   ·simp only [V.rep,D.rep];refine ⟨g,n,.int k v,rfl,hA,(yn.1 hh).1,rfl,λq hq=>?_⟩;have hq0:q=0:=by simp [Value.cells] at hq;omega
    subst hq0;rw [zV hh];simp [Value.cells,hn,hvn]
end
end
section
variable [ztS] [Drw]
theorem R.zyt {C bs T H a w i g k el xs ys cur new} (hR:R C bs ⟨T,H⟩ a w) (hi:H[i]? = some (.vec el k xs)) (hb:bs[i]? = some (some g))
  (hheap:w.heap[g]? = some (.cells cur el (0,0))) (hnew:new.size=cur.size) (hl:ys.length=xs.length) (hfl:D.flat (Own C.A0 bs) w k ys (new.toList.take (xs.length*k))) (h0:0<xs.length) :
  R C bs ⟨T,H.set i (.vec el k ys)⟩ a (w.setRow g new):=by
 have d:Fr (λc=>some g=some c) w (w.setRow g new):=⟨rfl,rfl,rfl,by simp,λc _ o=>setRow_other w g c _ (λe=>o (by rw [e])),λ_=>yk _⟩
 have s:bs.set i (some g)=bs:=by
  refine ud λq=>?_
  grind
 have p:∀ c,some g=some c→Own C.A0 bs c:=λc E=>.inr (by grind)
 have u:=R.upd (y:=.vec el k ys) (c:=some g) (c':=some g) hR hi hb (by
  simp only [Compat];refine .inr ⟨hl,trivial,trivial,λv n z G F=>?_⟩;rcases z.2 with ⟨h,A⟩ | ⟨B,f,t,r,_,b,j,l,x,m⟩
  ·omega
  obtain rfl:g=B:=by grind [Value.ownBlock]
  rw [hheap] at b;refine ⟨new.toList.take (xs.length*k),⟨?_,.inr ⟨g,f,new,by rw [r],yp _,setRow_heap w g cur _ el _ hheap,j,l,by grind,rfl⟩⟩,D.zug d p (λc _ E=>by grind) _ _ hfl⟩;simp_all) d (.inl rfl) (by grind [Blk.rep])
 grind
theorem V.asSub {A w bs H i n v} (h:V.rep A w bs H (.vec i n) v):V.rep A w bs H (.sub i n 0 n) v:=by
 simp only [V.rep] at h ⊢;split at h
 ·refine ⟨h.1,λj=>?_⟩;obtain ⟨a,c,e,f⟩:=h.2 j;refine ⟨v,a,c,e,f,yp _,yk _,?_⟩;rcases c.2 with ⟨rfl,l⟩ | ⟨g,b,k,rfl,_,_,d,_,_,_⟩
  ·grind
  ·exact ⟨_,b,rfl,by omega,λ_=>⟨g,by simp [Value.ownBlock],by simp⟩⟩
 ·trivial
 grind
theorem TriL.asSub {P C ops rest Q T H} (t) {i n} (ht:look t T=some (.vec i n))
  (k:TriL P C ops rest Q ⟨(t,.sub i n 0 n)::T,H⟩):TriL P C ops rest Q ⟨T,H⟩:=⟨λ_ a w b=>k.run _ a w (b.know (b.tmp t _ ht).1 (V.asSub (b.tmp t _ ht).2))⟩
def zfe {α:Type} (xs:List α) (lo hi:Nat) (ys:List α):List α:=xs.take lo++(ys.take (hi - lo)++xs.drop (lo+min (hi - lo) ys.length))
omit [ztS] [Drw] in
theorem zdC {α} {xs} {lo hi} {ys:List α} (h1:lo≤hi) (h2:hi≤xs.length):(zfe xs lo hi ys).length=xs.length:=by
 grind [zfe]
theorem D.zu0 {A w k}:∀ {xs} {cells} (n),D.flat A w k xs cells→D.flat A w k (xs.take n) (cells.take (n*k))∧D.flat A w k (xs.drop n) (cells.drop (n*k))
 | xs,cells,0,h=>by grind [D.flat]
 | [],cells,n+1,h=>by grind [D.flat]
 | x::xs,cells,n+1,h=>by
  obtain ⟨u,a,rfl,j,g,f⟩:=h;obtain ⟨l,i⟩:=D.zu0 n f;have e:(n+1)*k=k+n*k:=by grind
  have b:u.cells.toList.length=k:=by grind
  have d:(u.cells.toList++a).take (k+n*k)=u.cells.toList++a.take (n*k):=by
   grind
  have c:(u.cells.toList++a).drop (k+n*k)=a.drop (n*k):=by
   rw [List.drop_append,b,List.drop_eq_nil_of_le (by grind),Nat.add_sub_cancel_left,yU]
  rw [List.take_succ_cons,List.drop_succ_cons,e,d,c];simp only [D.flat]
  grind
theorem zrK {P} (w dT sT ty elem k n dp sp dLen dCap sLen sCap) (hu:P.underlying dT=some (.slice elem)) (hsz:(P.info? elem).map (·.size)=some k) (hn:n=Nat.min sLen dLen)
  (g o) (cur) (t) (hg:w.heap[g]? = some (.cells cur t (0,0))) (cs) (hl:cs.length=n*k) (hd:0<n→dp=some ⟨g,o,none⟩) (hs:0<n→∃ ad,sp=some ad∧∀ j v,cs[j]? = some v→w.cell? (ad.add j)=some v)
  (hfit:o+cs.length≤cur.size) (h1:∀ v∈cs,v.oneCell'=true) :
  (Builtin.copy_ #[dT,sT] ty #[.slice dp dLen dCap,.slice sp sLen sCap]).run P w = .ok (goInt n) (if 0<n then w.setRow g (cur.toList.take o++cs++cur.toList.drop (o+cs.length)).toArray else w):=by
 cases hi:P.info? elem with
 | none=>grind
 | some inf=>
  have hq:inf.size=k:=by grind
  by_cases h0:0<n
  ·obtain ⟨ad,rfl,hsrc⟩:=hs h0;rw [hd h0];have hfc:=run_firstCells_some (P:=P) w k n ad sLen sCap cs hl hsrc;have hst:=run_storeCells_at P g o t cs 0 cur w hg (by grind) h1;subst hn;simp [Builtin.copy_,run_underlying hu,Builtin.lenOf,sizeOf,typeInfo,hi,hq,hfc,hst,h0]
  ·have hn0:n=0:=by omega
   subst hn0;have hcs:cs=[]:=y6 (by grind);have:Nat.min sLen dLen=0:=hn.symm;cases dp <;> cases sp <;> simp [Builtin.copy_,run_underlying hu,Builtin.lenOf,Builtin.firstCells,loadCells,loadCellsFrom,sizeOf,typeInfo,hi,hq,this,storeCells]
section
variable {P:Program} {o:Oper} {e:Operand→Option V} {H:List Blk}
theorem OpV.subL {α} {t el el' x y} {i n k} {l r} {enc:α→D} {lo} (ho:o.op = .slice t x (some y) none none) (hx:e x=some (.vec i n)) (hi:H[i]? = some (.vec el' k (l.map enc))) (hn:n=l.length) (hy:e y=some (.d (.int lo)))
  (ht:P.underlying t=some (.slice el)) (hs:(P.info? el).map (·.size)=some k) (hr:cut l lo (l.length:Int)=some r):OpV P o e H (.sub i n lo.toNat n):=by
 obtain ⟨a,b,rfl,hb,h1,h2,rfl⟩:=cutS hr;have hb':l.length=b:=by omega
 subst hb';refine .of_same λA0 bs w f _ hf=>?_
 have e1:=hf x (by grind [Op.operands]) _ hx;have e2:=zr.1 (hf y (by grind [Op.operands]) _ hy);simp only [V.rep,hi] at e1;obtain ⟨cells,g1,g2,g3⟩:=e1.2 (by grind);cases hinf:P.info? el with
 | none=>grind
 | some inf=>
  have hsz:inf.size=k:=by simpa [hinf] using hs
  have hel:P.elem t=el:=by simp [Program.elem,ht]
  have hck:P.cellsOf el=k:=by grind [Program.cellsOf]
  have main:∀ (ad:Option Addr) (cap:Nat),f x = .slice ad n cap→n≤cap→(∀ g,ad=some g→∃ b,(f x).ownBlock=some b∧g=⟨b,0,none⟩)→(0<n→ad.isSome=true)→∃ u,(execOp f o).run P w = .ok (.value u) w∧V.rep (Own A0 bs) w bs H (.sub i n ((a:Int)).toNat n) u:=by
   intro ad cap hp hnc hg hne;refine ⟨sliced ad a n cap k,?_,?_⟩
   ·have:=run_slice_l (P:=P) w t ad n cap (by rw [hel];exact ht) .i64 a (by omega) (by omega);rw [hel,run_sizeOf w hinf,hck] at this;simp only [yz,Result.andThen_ok] at this;simp only [execOp,ho,hp,e2,yT,Option.map_none,Sem.run_bind,run_sliceAt_slice w t _ _ _ _ (by rw [hel];exact ht),this,Result.andThen_ok,Sem.run_pure]
   ·simp only [V.rep,hi,yz];refine ⟨e1.1,λ_=>⟨f x,cells,g1,g2,g3,by omega,yk _,if cap=a then ad else ad.map (·.add (a*k)),cap - a,rfl,by omega,λhlt=>?_⟩⟩;have hso:=hne (by omega);cases ad with
    | none=>simp at hso
    | some g=>
     obtain ⟨b,hb1,rfl⟩:=hg g rfl;exact ⟨b,hb1,by rw [if_neg (by omega)];simp [Addr.add_lit]⟩
  rcases g1.2 with ⟨h,h0⟩ | ⟨g,cap,cur,hh,_,_,hnc,_,_,_⟩
  ·exact main none 0 (by rw [h,h0]) (by omega) (λg h=>(by cases h)) (λh=>by omega)
  ·exact main (some ⟨g,0,none⟩) cap hh hnc (λg' h=>⟨g,by rw [hh];simp [Value.ownBlock],by simpa using h.symm⟩) (λ_=>rfl)
theorem OpV.subH {α} {t el el' x y} {i n k} {l r} {enc:α→D} {hi'} (ho:o.op = .slice t x none (some y) none) (hx:e x=some (.vec i n)) (hi:H[i]? = some (.vec el' k (l.map enc))) (hn:n=l.length) (hy:e y=some (.d (.int hi')))
  (ht:P.underlying t=some (.slice el)) (hs:(P.info? el).map (·.size)=some k) (hr:cut l 0 hi'=some r):OpV P o e H (.sub i n 0 hi'.toNat):=by
 obtain ⟨z,b,hz,rfl,h1,h2,rfl⟩:=cutS hr;refine .of_same λA0 bs w f _ hf=>?_
 have e1:=hf x (by grind [Op.operands]) _ hx;have e2:=zr.1 (hf y (by grind [Op.operands]) _ hy);simp only [V.rep,hi] at e1;obtain ⟨cells,g1,g2,g3⟩:=e1.2 (by grind);cases hinf:P.info? el with
 | none=>grind
 | some inf=>
  have hsz:inf.size=k:=by grind
  have hel:P.elem t=el:=by grind [Program.elem]
  have hck:P.cellsOf el=k:=by grind [Program.cellsOf]
  have main:∀ (ad:Option Addr) (cap:Nat),f x = .slice ad n cap→n≤cap→(∀ g,ad=some g→∃ b,(f x).ownBlock=some b∧g=⟨b,0,none⟩)→(0<n→ad.isSome=true)→∃ u,(execOp f o).run P w = .ok (.value u) w∧V.rep (Own A0 bs) w bs H (.sub i n 0 ((b:Int)).toNat) u:=by
   intro ad cap hp hnc hg hne;refine ⟨sliced ad 0 b cap k,?_,?_⟩
   ·have:=run_slice_h (P:=P) w t ad n cap (by rw [hel];exact ht) .i64 b (by omega) (by omega);rw [hel,run_sizeOf w hinf,hck] at this;simp only [yz,Result.andThen_ok] at this;simp only [execOp,ho,hp,e2,yT,Option.map_none,Sem.run_bind,run_sliceAt_slice w t _ _ _ _ (by rw [hel];exact ht),this,Result.andThen_ok,Sem.run_pure]
   ·simp only [V.rep,hi,yz];refine ⟨e1.1,λ_=>⟨f x,cells,g1,g2,g3,yp _,by omega,if cap=0 then ad else ad.map (·.add (0*k)),cap,rfl,by omega,λhlt=>?_⟩⟩;have hso:=hne (by omega);cases ad with
    | none=>simp at hso
    | some g=>
     obtain ⟨b,hb1,rfl⟩:=hg g rfl;exact ⟨b,hb1,by rw [if_neg (by omega)];simp [Addr.add_lit]⟩
  rcases g1.2 with ⟨h,h0⟩ | ⟨g,cap,cur,hh,_,_,hnc,_,_,_⟩
  ·exact main none 0 (by rw [h,h0]) (by omega) (λg h=>(by cases h)) (λh=>by omega)
  ·exact main (some ⟨g,0,none⟩) cap hh hnc (λg' h=>⟨g,by rw [hh];simp [Value.ownBlock],by simpa using h.symm⟩) (λ_=>rfl)
end
theorem zoa {A w k xs ys zs a b c} (h1:D.flat A w k xs a) (h2:D.flat A w k ys b) (h3:D.flat A w k zs c):D.flat A w k (xs++(ys++zs)) (a++(b++c)):=D.zvk h1 (D.zvk h2 h3)
theorem take3 {α:Type} {A B C:List α} {n a c} (hA:A.length=a) (hB:B.length=c) (h:a+c≤n):(A++(B++C)).take n=A++(B++C.take (n - a - c)):=by
 grind [List.take_append,List.take_of_length_le]
inductive zxW (e:Operand→Option V) (H:List Blk) (k:Nat) {α:Type} (enc:α→D) (y:Operand):List α→Prop
 | d {ys:List α}:e y=some (.d (.sl k (ys.map enc)))→zxW e H k enc y ys
 | sub {i n lo hi:Nat} {el:TypeId} {l:List α}:e y=some (.sub i n lo hi)→H[i]? = some (.vec el k (l.map enc))→n=l.length→zxW e H k enc y ((l.drop lo).take (hi - lo))
theorem zxW.reads {C bs T H a w} (hR:R C bs ⟨T,H⟩ a w) {k} {α} {enc} {y} {ys:List α} (h:zxW (ev T) H k enc y ys) :
  ∃ sp cap cells,a.eval y = .slice sp ys.length cap∧D.flat (Own C.A0 bs) w k (ys.map enc) cells∧(0<ys.length→∃ ad,sp=some ad∧∀ j v,cells[j]? = some v→w.cell? (ad.add j)=some v):=by
 cases h with
 | d hy=>
  have h1:=hR.ev hy;simp only [V.rep,D.rep,yL] at h1;obtain ⟨ad,cap,hp,hcap,hrow⟩:=h1;rcases hrow with hnil | ⟨b,off,rfl,_,_,hrow⟩
  ·have:ys=[]:=by simp_all
   subst this;exact ⟨ad,cap,[],hp,by simp [D.flat],λh=>by simp at h⟩
  ·obtain ⟨cells,h1,h2⟩:=D.zws _ _ hrow;exact ⟨_,cap,cells,hp,h1,λ_=>⟨_,rfl,λj v hv=>by grind [Addr.add_lit]⟩⟩
 | sub hy hi hn=>
  rename_i i n lo hh el l;have h1:=hR.ev hy;simp only [V.rep,hi] at h1;obtain ⟨hdr,cells,g1,g2,g3,glo,ghi,ad,cap,hp,hcap,hne⟩:=h1.2 (by grind);have hlen:((l.drop lo).take (hh - lo)).length=hh - lo:=by grind
  have hsp:=(D.zu0 (hh - lo) (D.zu0 lo g3).2).1;refine ⟨ad,cap,(cells.drop (lo*k)).take ((hh - lo)*k),by grind,by simp_all,λh0=>?_⟩;rw [hlen] at h0;obtain ⟨b,hb,rfl⟩:=hne (by omega);refine ⟨_,rfl,λj v hv=>?_⟩;rcases g1.2 with ⟨rfl,_⟩ | ⟨g,cp,cur,rfl,_,_,_,_,_,_⟩
  ·grind
  ·obtain rfl:g=b:=by simpa [Value.ownBlock] using hb
   rw [uS] at hv;split at hv
   ·rw [uR] at hv;have:=g1.cells (g:=g) rfl _ _ hv;rw [Addr.add_mid] at this;rw [Addr.add_lit];simpa using this
   ·cases hv
theorem TriL.zx4 {P} {C} {ops} {o:Oper} {rest} {Q} {T} {H} {α} {t t' el} {x y} {i n lo hi k bytes d:Nat} {enc} {l ys:List α}
  (hg:o.guard=none) (ho:o.op = .call { callee:=.builtin .copy,args:=#[x,y],argTypes:=#[t,t'] }) (hd:o.dst=some d) (hdn:Nat.blt d C.n=true) (he:zbq P t el k bytes=true) (hx:ev T x=some (.sub i n lo hi)) (hi':H[i]? = some (.vec el k (l.map enc))) (hn:n=l.length)
  (hy:zxW (ev T) H k enc y ys) (h1:∀ x,(enc x).ones=true)
  (kk:TriL P C ops rest Q ⟨(d,.d (.int (min (hi - lo) ys.length:Nat)))::T,H.set i (.vec el k ((zfe l lo hi ys).map enc))⟩):TriL P C ops (o::rest) Q ⟨T,H⟩:=by
 obtain ⟨htu,hk0,inf,z,hinf,hz,hisz,hib,hzc⟩:=zbA he;refine TriL.step hg (λbs a w hR=>?_) kk;have hxr:=hR.ev hx;simp only [V.rep,hi'] at hxr;obtain ⟨hdr,cells,g1,g2,g3,glo,ghi,ad,cap,hp,hcap,hne⟩:=hxr.2 (by grind);obtain ⟨sp,scap,scells,hs,hsf,hsr⟩:=hy.reads hR;have hsl:=D.zu6 hsf;simp only [yL] at hsl;obtain ⟨c,hc⟩:∃ c,c=min (hi - lo) ys.length:=⟨_,rfl⟩
 have hc1:c≤hi - lo:=by omega
 have hc2:c≤ys.length:=by omega
 have htk:scells.take (c*k)=scells.take (c*k):=rfl;have hckl:(scells.take (c*k)).length=c*k:=by simp_all
 have hfl1:=(D.zu0 c hsf).1;have hone:∀ v∈scells.take (c*k),v.oneCell'=true:=D.zvK (λq hq=>by
  grind) hfl1
 have hset:bs.set i hdr.ownBlock=bs:=by
  refine ud λq=>?_
  grind
 by_cases h0:0<c
 ·obtain ⟨b,hb,rfl⟩:=hne (by omega);rcases g1.2 with ⟨rfl,_⟩ | ⟨g,cp,cur,rfl,_,hheap,hnc,hcm,hcs,htake⟩
  ·simp [Value.ownBlock] at hb
  obtain rfl:g=b:=by simpa [Value.ownBlock] using hb
  have hnk:n*k≤cp*k:=yS _ hnc;have hlock:lo*k+c*k≤n*k:=by rw [← Nat.add_mul];exact yS _ (by omega)
  have hrun:=zrK (P:=P) w t t' o.type el k c (some ⟨g,lo*k,none⟩) sp (hi - lo) cap ys.length scap htu (by simp [hinf,hisz]) (by rw [hc];exact Nat.min_comm _ _) g (lo*k) cur el hheap (scells.take (c*k)) hckl (λ_=>rfl) (λ_=>by
   obtain ⟨ad,h2,h3⟩:=hsr (by omega);exact ⟨ad,h2,λj v hv=>h3 j v (by rw [uS] at hv;split at hv;exact hv;cases hv)⟩) (by rw [hckl,hcs];omega) hone
  rw [if_pos h0,hckl] at hrun;obtain ⟨new,hnew⟩:∃ new:Array Value,new=(cur.toList.take (lo*k)++scells.take (c*k)++cur.toList.drop (lo*k+c*k)).toArray:=⟨_,rfl⟩
  rw [← hnew] at hrun;have hex:(execOp a.eval o).run P w = .ok (.value (goInt c)) (w.setRow g new):=by
   simp only [execOp,ho,resolve,invoke,builtin];simp [hp,hs,hrun]
  have hnsz:new.size=cur.size:=by
   rw [hnew];simp only [uI,yQ,ub,ua,yt,hckl,hcs];omega
  have hcopy:(zfe l lo hi ys).map enc=(l.map enc).take lo++((ys.map enc).take c++(l.map enc).drop (lo+c)):=by
   have e1:ys.take (hi - lo)=ys.take c:=by
    by_cases hle:hi - lo≤ys.length
    ·rw [show c=hi - lo by omega]
    ·rw [List.take_of_length_le (by omega),show c=ys.length by omega,List.take_length]
   simp only [zfe,uw,e1,List.map_take,List.map_drop,← hc]
  have hflat:D.flat (Own C.A0 bs) w k ((zfe l lo hi ys).map enc) (new.toList.take ((l.map enc).length*k)):=by
   rw [hcopy];have t1:=(D.zu0 lo g3).1;have t3:=(D.zu0 (lo+c) g3).2;have:=zoa t1 hfl1 t3;have e2:new.toList.take ((l.map enc).length*k)=cells.take (lo*k)++(scells.take (c*k)++cells.drop ((lo+c)*k)):=by
    rw [hnew,yL,← hn,← htake];simp only [List.toList_toArray,yM];have l1:(cur.toList.take (lo*k)).length=lo*k:=by rw [ub,yt,hcs];omega
    rw [take3 l1 hckl hlock,List.take_take,Nat.min_eq_left (by omega),List.drop_take,Nat.add_mul,Nat.sub_sub]
   rw [e2];exact this
  have hT:=hR.zyt hi' (by rw [g2];rfl) hheap hnsz (by simp [zdC glo (by omega:hi≤l.length)]) hflat (by simp;omega)
  have hput:=hT.put (Fr.refl _ _) (some d) (by simpa [zup] using hdn) (v:=.d (.int (min (hi - lo) ys.length:Nat))) (u:=goInt c) (by simp only [V.rep,D.rep,goInt,hc]);refine ⟨_,_,bs,hex,.inl ⟨_,rfl,?_⟩⟩;rw [hd];exact hput
 ·have hc0:c=0:=by omega
  have hcopy:zfe l lo hi ys=l:=by
   have e1:ys.take (hi - lo)=[]:=by
    rcases Nat.eq_zero_or_pos (hi - lo) with h | h
    ·rw [h,List.take_zero]
    ·have:ys=[]:=y6 (by omega);rw [this,List.take_nil]
   simp only [zfe,e1,yU,← hc,hc0,ut,uB]
  have hrun:(Builtin.copy_ #[t,t'] o.type #[.slice ad (hi - lo) cap,.slice sp ys.length scap]).run P w = .ok (goInt 0) w:=by
   have hm:Nat.min ys.length (hi - lo)=0:=by rw [Nat.min_comm] at hc;exact hc.symm.trans hc0
   cases ad <;> cases sp <;> simp [Builtin.copy_,run_underlying htu,Builtin.lenOf,Builtin.firstCells,loadCells,loadCellsFrom,sizeOf,typeInfo,hinf,hm,storeCells]
  have hex:(execOp a.eval o).run P w = .ok (.value (goInt 0)) w:=by
   simp only [execOp,ho,resolve,invoke,builtin];simp [hp,hs,hrun]
  have hput:=hR.put (Fr.refl _ _) (some d) (by simpa [zup] using hdn) (v:=.d (.int (min (hi - lo) ys.length:Nat))) (u:=goInt 0) (by simp only [V.rep,D.rep,goInt,← hc,hc0];rfl);refine ⟨_,_,bs,hex,.inl ⟨_,rfl,?_⟩⟩;rw [hd,hcopy];have:H.set i (.vec el k (l.map enc))=H:=by
   obtain ⟨q1,q2⟩:=yc.1 hi';rw [← q2,List.set_getElem_self]
  rw [this];exact hput
omit [ztS] [Drw] in
theorem zlg {α} (xs) (ys:List α):(zfe xs 0 xs.length ys).length=xs.length:=zdC (yp _) (yk _)
theorem zh8 {α} {xs r} {lo} (h:cut xs lo (xs.length:Int)=some r) (ys:List α):(zfe xs lo.toNat xs.length ys).length=xs.length:=by
 obtain ⟨a,b,rfl,d,e,c,rfl⟩:=cutS h;exact zdC (by grind) (yk _)
def shrO (k:IntKind) (a b:Int):Option Int:=if b<0 then none else some (a.fdiv (2 ^ min b.toNat k.bits))
section
variable {P:Program} {o:Oper} {e:Operand→Option V} {H:List Blk}
theorem OpV.shr {t u x y k j a b c} (ho:o.op = .binOp .shr t x y u) (hx:e x=some (.d (.val (.int k a)))) (hy:e y=some (.d (.val (.int j b)))) (hc:shrO k a b=some c):OpV P o e H (.d (.val (.int k c))):=
 .of_same λ_ _ w f _ g=>by
  have i:=zr.1 (g x (by grind [Op.operands]) _ hx);have l:=zr.1 (g y (by grind [Op.operands]) _ hy);unfold shrO at hc;split at hc
  ·cases hc
  ·rename_i h;cases hc;refine ⟨_,?_,zr.2 rfl⟩;simp [execOp,ho,i,l,eqGuard_at_int,binOp,Op.shift,h]
end
theorem Tri.keep {P C c Q s} (H ks) {K} (hK:Looks s.T ks K) (hH:s.H=H) (k:Tri P C c Q ⟨K,H⟩):Tri P C c Q s:=
 Tri.le ⟨hH,hK.sub⟩ k
end
section
variable [ztS] [Drw]
mutual
theorem V.zu4 {m n} (h:m≤n):∀ (x:V),x.under m=true→x.under n=true
 | .d _,_=>rfl
 | .junk,_=>rfl
 | .loc i _,hx | .vec i _,hx | .arr i _ _,hx | .el i _ _ _,hx | .sub i _ _ _,hx | .mp i,hx | .itp i,hx | .que i _,hx | .qel i _ _,hx=>by
  simp only [V.under,uJ] at hx ⊢;omega
 | .agg cs,hx | .tup cs,hx=>by simp only [V.under] at hx ⊢;exact V.zvE h cs hx
 | .fn _ a b,hx=>by
  simp only [V.under,yd] at hx ⊢;exact ⟨V.zvE h a hx.1,V.zvE h b hx.2⟩
theorem V.zvE {m n} (h:m≤n):∀ (xs:List V),V.zvX m xs=true→V.zvX n xs=true
 | [],_=>rfl
 | x::xs,hx=>by
  simp only [V.zvX,yd] at hx ⊢;exact ⟨V.zu4 h x hx.1,V.zvE h xs hx.2⟩
end
def zbQ:Nat→List V→List (Nat×V)
 | _,[]=>[]
 | i,x::xs=>(i,x)::zbQ (i+1) xs
theorem zcR {A w bs H}:∀ (xs:List V) (i:Nat) (vs:List Value) (tmps:Array Value),V.reps A w bs H xs vs→(∀ j,j<vs.length→tmps.getD (i+j) undef=vs.getD j undef)→i+vs.length≤tmps.size →
  ∀ t v,look t (zbQ i xs)=some v→t<tmps.size∧V.rep A w bs H v (tmps.getD t undef)
 | [],_,_,_,_,_,_,t,v,h=>by simp [zbQ,look] at h
 | x::xs,i,vs,tmps,hr,hj,hn,t,v,h=>by
  simp only [V.reps] at hr;obtain ⟨u,vs',rfl,h1,h2⟩:=hr;simp only [zbQ,zbc] at h;simp only [yR] at hn;split at h <;> rename_i e
  ·cases h;subst e;have:=hj 0 (by simp);simp only [ut,List.getD_cons_zero] at this;exact ⟨by omega,by rw [this];exact h1⟩
  ·exact zcR xs (i+1) vs' tmps h2 (λj hj'=>by
    have:=hj (j+1) (by simpa using hj');rw [show i+1+j=i+(j+1) by omega,this];simp) (by omega) t v h
def ResV:St→List ResultVar→List V→Prop
 | _,[],vs=>vs=[]
 | s,.tmp t::rs,vs=>∃ v vs',vs=v::vs'∧look t s.T=some v∧ResV s rs vs'
 | _,.cell _ _::_,_=>False
def ze0:List V→V
 | [v]=>v
 | vs=>.tup vs
def retV (rs:List ResultVar) (K:V→List Blk→Prop) (e:Exit) (s:St):Prop:=
 (e = .ret∨e = .normal)∧∃ vs,ResV s rs vs∧K (ze0 vs) s.H
theorem zoD {P C bs s a w} (hR:R C bs s a w):∀ (rs:List ResultVar) (xs:List V),ResV s rs xs →
  ∃ vs:List Value,(rs.mapM (zel a.tmps)).run P w = .ok vs w∧V.reps (Own C.A0 bs) w bs s.H xs vs
 | [],xs,h=>by simp only [ResV] at h;subst h;exact ⟨[],by simp,by simp [V.reps]⟩
 | .tmp t::rs,xs,h=>by
  simp only [ResV] at h;obtain ⟨v,xs',rfl,h1,h3⟩:=h;obtain ⟨vs,hr,hv⟩:=zoD (P:=P) hR rs xs' h3;refine ⟨a.tmps.getD t undef::vs,?_,?_⟩
  ·simp only [List.mapM_cons,Sem.run_bind,zel,Sem.run_pure,Result.andThen_ok,hr]
  ·simp only [V.reps];exact ⟨_,_,rfl,(hR.tmp t v h1).2,hv⟩
 | .cell _ _::_,_,h=>by simp only [ResV] at h
theorem V.zu3 {A w bs H}:∀ {xs:List V} {vs:List Value},V.reps A w bs H xs vs→vs.length=xs.length
 | [],vs,h=>by simp only [V.reps] at h;simp [h]
 | x::xs,vs,h=>by
  simp only [V.reps] at h;obtain ⟨v,vs',rfl,_,h2⟩:=h;simp [V.zu3 h2]
theorem znI {P C bs s a w fn xs} (hR:R C bs s a w) (h:ResV s fn.results.toList xs) :
  ∃ u,(results fn a.tmps).run P w = .ok u w∧V.rep (Own C.A0 bs) w bs s.H (ze0 xs) u:=by
 obtain ⟨us,hrun,hreps⟩:=zoD (P:=P) hR fn.results.toList xs h;have hl:=V.zu3 hreps;have hm:(fn.results.mapM (zel a.tmps)).run P w = .ok us.toArray w:=by
  rw [← Array.toArray_toList (xs:=fn.results),List.mapM_toArray];simp only [Sem.run_map,hrun,Result.andThen_ok]
 rw [zb1];simp only [Sem.run_bind,hm,Result.andThen_ok,Sem.run_pure];refine ⟨_,rfl,?_⟩
 match xs,us,hreps,hl with
 | [x],[u],hreps,_=>
  simp only [V.reps] at hreps;obtain ⟨_,_,e,h1,_⟩:=hreps;simp only [List.cons.injEq] at e;obtain ⟨rfl,_⟩:=e;simpa [ze0] using h1
 | [],[],hreps,_=>simpa [V.rep,ze0] using hreps
 | d1::d2::ds,u1::u2::us,hreps,_=>
  have hne:¬ (u1::u2::us).toArray.size=1:=by simp
  rw [dif_neg hne];simp only [V.rep,ze0];exact ⟨_,rfl,hreps⟩
structure zvx (P:Program) (o:Oper) (e:Operand→Option V) (f:FuncId) (xs:List V):Prop where
 run:∀ (A:Nat→Prop) (w:World) (bs:List (Option Nat)) (H:List Blk) (g:Operand→Value),(∀ x∈o.op.operands,∀ y,e x=some y→V.rep A w bs H y (g x))→(∀ k,g (.func k) = .func (.func k) #[] #[]) →
  ∃ vs:Array Value,(execOp g o).run P w = .ok (.enter f vs) w∧V.reps A w bs H xs vs.toList
theorem zvx.stat {P o e f args tys xs} (ho:o.op = .call { callee:=.value (.func f),args:=args,argTypes:=tys }) (hc:ztT P f=true)
  (ha:evsV e args.toList=some xs):zvx P o e f xs:=by
 refine ⟨λA w bs H g hf hk=>⟨args.map g,?_,?_⟩⟩
 ·simp only [execOp,ho,resolve,hk,Deferred.ofValue,Sem.run_bind,Sem.run_pure,Result.andThen_ok,invoke];simpa using zaW hc (args.map g) w
 ·have:=ziE (A:=A) (w:=w) (bs:=bs) (H:=H) (f:=g) ha (λx hx=>hf x (by simp [ho,Op.operands,Call.operands];right;simpa using hx));simpa using this
theorem zvx.clos {P o e x f args tys xs caps} (ho:o.op = .call { callee:=.value x,args:=args,argTypes:=tys }) (hx:e x=some (.fn (.func f) [] caps)) (hc:ztT P f=true)
  (ha:evsV e args.toList=some xs):zvx P o e f (xs++caps):=by
 refine ⟨λA w bs H g hf hk=>?_⟩;have h1:=hf x (by simp [ho,Op.operands,Call.operands]) _ hx;simp only [V.rep] at h1;obtain ⟨vs,us,hv,hr1,hr2⟩:=h1;simp only [V.reps] at hr1;have hvs:vs = #[]:=by simpa using hr1
 subst hvs;refine ⟨args.map g++us,?_,?_⟩
 ·simp only [execOp,ho,resolve,hv,Deferred.ofValue,Sem.run_bind,Sem.run_pure,Result.andThen_ok,invoke];simpa using zaW hc (args.map g++us) w
 ·have:=ziE (A:=A) (w:=w) (bs:=bs) (H:=H) (f:=g) ha (λx hx=>hf x (by simp [ho,Op.operands,Call.operands];right;simpa using hx));have:=V.zuq this hr2;simpa using this
def vals (a:Act):List (Nat×V)→List (Nat×V)→List (V×Value)
 | _,[]=>[]
 | T,(t,_)::r=>match look t T with | some v=>(v,a.tmps.getD t undef)::vals a T r | none=>vals a T r
theorem zd8 {a T}:∀ {L:List (Nat×V)} {p:V×Value},p∈vals a T L→∃ t,look t T=some p.1∧p.2=a.tmps.getD t undef
 | [],p,h=>by simp [vals] at h
 | (t,x)::r,p,h=>by
  simp only [vals] at h;split at h <;> rename_i e
  ·rcases yI.1 h with rfl | h
   ·exact ⟨t,e,rfl⟩
   ·exact zd8 h
  ·exact zd8 h
theorem zdG {a T t v} (ht:look t T=some v):∀ {L:List (Nat×V)} {x:V},look t L=some x→(v,a.tmps.getD t undef)∈vals a T L
 | [],x,h=>by simp [look] at h
 | (u,y)::r,x,h=>by
  simp only [zbc] at h;simp only [vals];split at h <;> rename_i e
  ·subst e;simp [ht]
  ·have:=zdG (a:=a) ht h;split
   ·exact yX _ this
   ·exact this
theorem zdr {T n t v} (h:(T.all λp=>p.2.under n)=true):look t T=some v→v.under n=true:=by
 induction T with
 | nil=>intro h;simp [look] at h
 | cons p L ih=>
  intro h5;obtain ⟨c,x⟩:=p;simp only [uj,yd] at h;simp only [zbc] at h5;split at h5
  ·cases h5;exact h.1
  ·exact ih h.2 h5
theorem TriL.zya {P C ops o rest Q T H f fn c xs N} {rs:List ResultVar}
  (hg:o.guard=none) (hd:zup o.dst C.n=true) (hc:zvx P o (ev T) f xs) (hf:P.funcs[f]? = some fn) (hb:fn.body=some c) (hN:fn.ntmps=N) (hrs:fn.results=rs.toArray) (hn:Nat.ble xs.length N=true)
  (hu:(T.all λp=>p.2.under H.length)=true) (hgn:Nat.ble C.gn H.length=true)
  (h:∀ (own0:Nat→Prop) (w:World) (gh:List (V×Value)),(∀ b,C.own0 b→own0 b)→(∀ p∈C.gh,p∈gh)→Tri P ⟨C.A0,own0,w,N,λ_ _=>False,gh,H.length,[]⟩ c (retV rs λv H'=>TriL P C ops rest Q ⟨putT T o.dst v,H'⟩) ⟨zbQ 0 xs,H⟩):TriL P C ops (o::rest) Q ⟨T,H⟩:=by
 subst hN;have hgn:=yf hgn;have hn:=yf hn;refine ⟨λbs a w hR=>wpList_plain hg λK hK=>?_⟩;obtain ⟨vs,hrun,hvs⟩:=hc.run (Own C.A0 bs) w bs H a.eval (λx _ y hx=>hR.ev hx) (λ_=>rfl);unfold Oper.wp;rw [hrun];simp only [Oper.upon];have hlen:=V.zu3 hvs;simp only [yt] at hlen;refine calls_of_wp hf hb ?_;have h0:=h (λb=>C.own0 b∨some b∈bs) w (C.gh++vals a T T) (λb hb=>.inl hb) λp hp=>List.mem_append_left _ hp
 have hR0:R ⟨C.A0,λb=>C.own0 b∨some b∈bs,w,fn.ntmps,λ_ _=>False,C.gh++vals a T T,H.length,[]⟩ bs ⟨zbQ 0 xs,H⟩ { tmps:=vs++Array.replicate (fn.ntmps - vs.size) undef,defers:=[] } w:=by
  have hsz:(vs++Array.replicate (fn.ntmps - vs.size) undef).size=fn.ntmps:=by simp;omega
  refine ⟨hR.own,hR.len,hR.blk,λt v hv=>?_,rfl,hsz,Fr.refl _ _,λb hb=>.inl (.inr hb),λp hp=>?_⟩
  ·have:=zcR xs 0 vs.toList (vs++Array.replicate (fn.ntmps - vs.size) undef) hvs
    (λj hj=>by
     have hj':j<vs.size:=by simpa using hj
     simp [yN,Array.getElem?_append,hj',List.getD])
    (by rw [hsz];simp;omega) t v hv
   rw [hsz] at this;exact this
  ·rcases yr.1 hp with hp | hp
   ·exact ⟨V.zu4 hgn _ (hR.gh p hp).1,(hR.gh p hp).2⟩
   ·obtain ⟨t,h1,h2⟩:=zd8 hp;exact ⟨zdr hu h1,by rw [h2];exact (hR.tmp t _ h1).2⟩
 refine Code.wp_mono ?_ (h0.run bs _ w hR0);rintro e a' w' (⟨bs',s',⟨he,ys,hres,hk⟩,hR'⟩ | ⟨_,hE⟩)
 case inr=>exact hE.elim
 obtain ⟨u,hu1,hu2⟩:=znI (P:=P) (fn:=fn) hR' (by rw [hrs];exact hres);have hsz:=hR'.fr.size;have hRC:R C bs' ⟨T,s'.H⟩ a w':=by
  refine ⟨hR'.own,hR'.len,hR'.blk,λt v hv=>⟨(hR.tmp t v hv).1,(hR'.gh _ (List.mem_append_right _ (zdG hv hv))).2⟩,hR.defers,hR.size,?_,λb hb=>?_,λp hp=>⟨(hR.gh p hp).1,(hR'.gh p (List.mem_append_left _ hp)).2⟩⟩
  ·have f1:=hR'.fr;refine ⟨f1.os.trans hR.fr.os,f1.tape.trans hR.fr.tape,f1.output.trans hR.fr.output,yJ hR.fr.size f1.size,λq hq hno=>?_,λd=>yJ (hR.fr.drawn d) (f1.drawn d)⟩;refine (f1.block q (yD hq hR.fr.size) λe=>?_).trans (hR.fr.block q hq hno);rcases e with e | e
   ·exact hno e
   ·rcases hR.new q e with e | e
    ·exact hno e
    ·omega
  ·rcases hR'.new b hb with (h1 | h1) | h1
   ·exact .inl h1
   ·exact hR.new b h1
   ·exact .inr (yJ hR.fr.size h1)
 have hfin:K (a.put o.dst u) w':=by
  have:=hRC.put (Fr.refl _ _) o.dst hd hu2;rw [St.put_eq] at this;exact hK _ _ (hk.run bs' _ _ this)
 rcases he with rfl | rfl
 ·exact ⟨hR'.defers,u,hu1,hfin⟩
 ·exact ⟨hR'.defers,u,hu1,hfin⟩
theorem TriL.inline {P C ops o rest Q T H f fn c xs N} {rs:List ResultVar}
  (hg:o.guard=none) (hd:zup o.dst C.n=true) (hc:zvx P o (ev T) f xs) (hf:P.funcs[f]? = some fn) (hb:fn.body=some c) (hN:fn.ntmps=N) (hrs:fn.results=rs.toArray) (hn:Nat.ble xs.length N=true)
  (hu:(T.all λp=>p.2.under H.length)=true) (hgn:Nat.ble C.gn H.length=true)
  (h:∀ (own0:Nat→Prop) (w:World) (gh:List (V×Value)),Tri P ⟨C.A0,own0,w,N,λ_ _=>False,gh,H.length,[]⟩ c (retV rs λv H'=>TriL P C ops rest Q ⟨putT T o.dst v,H'⟩) ⟨zbQ 0 xs,H⟩):TriL P C ops (o::rest) Q ⟨T,H⟩:=
 TriL.zya hg hd hc hf hb hN hrs hn hu hgn λown0 w gh _ _=>h own0 w gh
theorem TriL.eqNil {P C ops o rest Q s t u el x k xs}
  (hg:o.guard=none) (hd:zup o.dst C.n=true) (ho:o.op = .binOp .eql t x (.const (.slice none 0 0)) u) (htu:P.underlying t=some (.slice el)) (hx:ev s.T x=some (.d (.sl k xs)))
  (kk:∀ b:Bool,(b=true→xs=[])→TriL P C ops rest Q (s.put o.dst (.d (.bool b)))):TriL P C ops (o::rest) Q s:=by
 refine ⟨λbs a w hR=>wpList_plain hg λK hK=>?_⟩;have h1:=hR.ev hx;simp only [V.rep,D.rep] at h1;obtain ⟨p,cap,hv,hcap,hr⟩:=h1;have hrun:∃ b:Bool,(b=true→xs=[])∧(execOp a.eval o).run P w = .ok (.value (.bool b)) w:=by
  refine ⟨p.isNone,λhp=>?_,?_⟩
  ·rcases hr with hr | ⟨b,off,e,_⟩
   ·exact hr
   ·rw [e] at hp;simp at hp
  ·simp only [execOp,ho,hv];simp only [Act.eval];have hguard:(eqGuard BinOp.eql t x (Operand.const (Value.slice none 0 0)) (Value.slice p xs.length cap) (Value.slice none 0 0)).run P w = .ok () w:=by simp [eqGuard]
   simp [hguard,Lib.run_eql_slice_nil w t el p xs.length cap 0 0 htu]
 obtain ⟨b,hb,hrun⟩:=hrun;unfold Oper.wp;rw [hrun];exact hK _ _ ((kk b hb).run bs _ _ (hR.put (Fr.refl _ _) o.dst hd (zr.2 rfl)))
def ziA (t:TypeId):Code:=
  (Code.region 0 #[{ dst := some 2, op := Op.assign (Operand.const (Value.slice none 0 0)), type := t, pos := "slices.go:355", after := #[], guard := none }] false).seq
    (((Code.region 1 #[{ dst := some 3, op := Op.move (Operand.tmp 0), type := t, pos := "slices.go:357", after := #[], guard := none },
        { dst := some 4, op := Op.binOp BinOp.eql t (Operand.tmp 3) (Operand.const (Value.slice none 0 0)) t, type := 4, pos := "slices.go:357", after := #[{ on := 0, ground := Ground.data }], guard := none }] false).seq
      (Code.cond (Operand.tmp 4)
        ((Code.region 2 #[{ dst := some 2, op := Op.assign (Operand.const (Value.slice none 0 0)), type := t, pos := "slices.go:358", after := #[], guard := none }] false).seq Code.ret)
        Code.skip)).seq
    ((Code.region 3 #[{ dst := some 5, op := Op.buildSlice t 0 #[], type := t, pos := "slices.go:362", after := #[], guard := none },
        { dst := some 6, op := Op.move (Operand.tmp 0), type := t, pos := "slices.go:362", after := #[], guard := none },
        { dst := some 7, op := Op.call { callee := Callee.builtin Builtin.append, args := #[Operand.tmp 5, Operand.tmp 6], argTypes := #[t, t] }, type := t, pos := "slices.go:362", after := #[{ on := 0, ground := Ground.data }, { on := 1, ground := Ground.data }], guard := none },
        { dst := some 2, op := Op.assign (Operand.tmp 7), type := t, pos := "slices.go:362",
          after:=#[{ on:=2,ground:=Ground.data },{ on:=2,ground:=Ground.chain },{ on:=0,ground:=Ground.phase },{ on:=1,ground:=Ground.phase },{ on:=2,ground:=Ground.phase }],guard:=none }] false).seq
      Code.ret))
theorem TriL.clone {P:Program} {C:Ctx} {ops:Array Oper} {o:Oper} {rest:List Oper} {Q:Exit→St→Prop} {T:List (Nat×V)} {H:List Blk} {f:FuncId} {fn:Func} {x:Operand} {tys:Array TypeId} {α:Type} {t el:TypeId} {k bytes d:Nat} {enc:α→D} {xs zs:List α}
  (hg:o.guard=none) (ho:o.op = .call { callee:=.value (.func f),args:=#[x],argTypes:=tys }) (hd:o.dst=some d) (hdn:Nat.blt d C.n=true) (hcl:ztT P f=true) (hf:P.funcs[f]? = some fn) (hbody:fn.body=some (ziA t)) (hN:fn.ntmps=8) (hrs:fn.results = #[.tmp 2])
  (hx:ev T x=some (.d (.sl k (xs.map enc)))) (ht:zbq P t el k bytes=true) (hb:Nat.blt 0 bytes=true) (hones:∀ z,(enc z).ones=true) (hk:∀ x,(enc x).kOK k=true) (hv:Go.Proofs.YtipkniadbkndfaaGreatDoor.app bytes [] xs=some zs)
  (hu:(T.all λp=>p.2.under H.length)=true) (hgn:Nat.ble C.gn H.length=true)
  (kk:TriL P C ops rest Q ⟨(d,.vec H.length zs.length)::T,H++[.vec el k (zs.map enc)]⟩):TriL P C ops (o::rest) Q ⟨T,H⟩:=by
 have hz:zs=xs:=by have:=(appS hv).1;simpa using this
 have htu:=(zbA ht).1;have hlast:(H++[Blk.vec el k (List.map enc [])])[H.length]? = some (.vec el k (List.map enc [])):=by simp
 have hset:(H++[Blk.vec el k (List.map enc [])]).set H.length (.vec el k (zs.map enc))=H++[.vec el k (zs.map enc)]:=by simp
 refine TriL.inline (rs:=[.tmp 2]) (xs:=[.d (.sl k (xs.map enc))]) hg (by rw [hd];simpa [zup] using hdn) (zvx.stat ho hcl (by simp [evsV,hx])) hf hbody hN hrs rfl hu hgn λown0 w gh=>?_
 refine .seq (.region (.op rfl rfl (.assign rfl rfl) (.nil ?_)));refine .seq (.seq (.region (.op rfl rfl (.move rfl rfl) (.eqNil rfl rfl rfl htu rfl λb hxs=>.nil ?_))));refine .cond (t:=b) rfl (λhbt=>?_) (λ_=>.skip ?_)
 ·have hxs:=hxs hbt;have hxs:xs=[]:=by simpa using hxs
  subst hxs;subst hz;refine .seq (.region (.op rfl rfl (.assign rfl rfl) (.nil ?_)));refine .zve 2 k el rfl (.ret ⟨.inl rfl,[.vec H.length 0],⟨_,[],rfl,rfl,rfl⟩,?_⟩);rw [hd];exact kk
 ·refine .seq (.region (.zv7 (α:=α) (enc:=enc) [] rfl rfl rfl rfl rfl ht rfl hk (by simp [Nat.ble_eq]) ?_));refine .op rfl rfl (.move rfl rfl) ?_;refine .app rfl rfl rfl rfl rfl hlast rfl rfl ht hb hones hv ?_;refine .op rfl rfl (.assign rfl rfl) (.nil ?_);refine .ret ⟨.inl rfl,[.vec H.length zs.length],⟨_,[],rfl,rfl,rfl⟩,?_⟩;rw [hd];simp only [ze0];rw [show ∀ (s:St),s.H=s.H from λ_=>rfl];simp only [St.put,hset];exact kk
def optD {α:Type} (enc:α→D):Option α→D
 | none=>.val (.pointer none)
 | some x=>.ref (enc x)
theorem zs1 {α:Type} {enc:α→D} {o:Option α} {x:α} (h:o=some x):optD enc o = .ref (enc x):=by rw [h];rfl
theorem D.Le.ofEq {d d'} (h:d=d'):D.Le d d':=h▸.refl _
end
section
variable [ztS] [Drw]
end
section
variable [ztS] [Drw]
structure zxa (P:Program) (f:FuncId):Prop where
 out : ∃ fn, P.funcs[f]? = some fn ∧ (fn.name == "runtime.NumGoroutine") = false ∧ fn.body.isNone = true ∧ Extern.findNext fn = none ∧ Extern.find fn = some Extern.BytealgIndexByte.indexByte
theorem OpV.idxByte {P o e H f x y tys} {l:List UInt8} {c} (ho:o.op = .call { callee:=.value (.func f),args:=#[x,y],argTypes:=tys }) (hf:zxa P f)
  (hx:e x=some (.d (.str l))) (hy:e y=some (.d (.val (.int .u8 c)))):OpV P o e H (.d (.int (Lib.indexByte l c.toNat.toUInt8))):=by
 obtain ⟨fn,h1,h2,h3,h4,h5⟩:=hf.out;refine ⟨λA0 bs w g m hg _ hk=>?_⟩;have e1:=zr.1 (hg x (by simp [ho,Op.operands,Call.operands]) _ hx);have e2:=zr.1 (hg y (by simp [ho,Op.operands,Call.operands]) _ hy);have hrun:(execOp g o).run P w = .ok (.value (.int .i64 (Lib.indexByte l c.toNat.toUInt8))) w:=by
  have h:=run_callFunc_extern h1 h2 h3 h4 h5 #[.string ⟨l.toArray⟩,.int .u8 c] w;rw [Lib.run_indexByteString] at h;simp only [execOp,ho,resolve,hk,Deferred.ofValue,Sem.run_bind,Sem.run_pure,Result.andThen_ok,invoke];simpa [e1,e2] using h
 rw [hrun];exact ⟨Fr.refl _ _,zr.2 rfl⟩
end
def tab0:List Int:=[0,0,0,0,0,0,0,0,0,1,1,1,1,1,0,0,0,0,0,0,0,0,0,0,0,0,0,0,0,0,0,0,1,0,0,0,0,0,0,0,0,0,0,0,0,0,0,0,0,0,0,0,0,0,0,0,0,0,0,0,0,0,0,0,0,0,0,0,0,0,0,0,0,0,0,0,0,0,0,0,0,0,0,0,0,0,0,0,0,0,0,0,0,0,0,0,0,0,0,0,0,0,0,0,0,0,0,0,0,0,0,0,0,0,0,0,0,0,0,0,0,0,0,0,0,0,0,0,0,0,0,0,0,0,0,0,0,0,0,0,0,0,0,0,0,0,0,0,0,0,0,0,0,0,0,0,0,0,0,0,0,0,0,0,0,0,0,0,0,0,0,0,0,0,0,0,0,0,0,0,0,0,0,0,0,0,0,0,0,0,0,0,0,0,0,0,0,0,0,0,0,0,0,0,0,0,0,0,0,0,0,0,0,0,0,0,0,0,0,0,0,0,0,0,0,0,0,0,0,0,0,0,0,0,0,0,0,0,0,0,0,0,0,0,0,0,0,0,0,0,0,0,0,0,0,0]
instance dF:Drw:=⟨False⟩
instance globs:ztS:=⟨[(0,.cells (tab0.map (Value.int .u8)).toArray 336 (0,0))]⟩
theorem gm0:(0,Obj.cells (tab0.map (Value.int .u8)).toArray 336 (0,0))∈ztS.gs:=uM
theorem tl0:256=tab0.length:=by decide +kernel
section
theorem I.{u} {α:Sort u} {a:α}:a=a:=rfl
theorem Looks.c {T:List (Nat×V)} {k:Nat} {v:V} {ks:List Nat} {K:List (Nat×V)} (h:look k T=some v) (r:Looks T ks K):Looks T (k::ks) ((k,v)::K):=.cons h r
theorem bK {α R:Type} {o:Option α} {k:α→Option R} {r:R} {G:Prop} (h:o.bind k=some r) (f:∀ v,o=some v→k v=some r→G):G:=by
 obtain ⟨v,h1,h2⟩:=zvq h
 exact f v h1 h2
theorem gK {R:Type} {c:Bool} {m:Option R} {r:R} {G:Prop} (h:grd c m=some r) (f:c=true→m=some r→G):G:=f (grdS h).1 (grdS h).2
theorem Pure.ot [ztS] [Drw] {P:Program} {f:FuncId} {fn:Func} {c:Code} {xs:List D} {y:D} {m:Nat} (hf:P.funcs[f]? = some fn) (hb:fn.body=some c) (hm:fn.ntmps=m) (hn:Nat.ble xs.length m=true)
  (h:∀ A w,Tri P ⟨A,ze,w,m,λ_ _=>False,[],0,[]⟩ c (retQ P fn.results y) ⟨params 0 xs,[]⟩):Pure P f xs y:=by
 subst hm
 exact Pure.zwB hf hb (yf hn) h
theorem Looks.c2 {T:List (Nat×V)} {k0 k1:Nat} {v0 v1:V} {ks:List Nat} {K:List (Nat×V)} (h:(look k0 T,look k1 T)=(some v0,some v1)) (r:Looks T ks K):Looks T (k0::k1::ks) ((k0,v0)::(k1,v1)::K):=by simp only [yv] at h;exact .cons h.1 (.cons h.2 r)
theorem Looks.c4 {T:List (Nat×V)} {k0 k1 k2 k3:Nat} {v0 v1 v2 v3:V} {ks:List Nat} {K:List (Nat×V)} (h:(look k0 T,look k1 T,look k2 T,look k3 T)=(some v0,some v1,some v2,some v3)) (r:Looks T ks K):Looks T (k0::k1::k2::k3::ks) ((k0,v0)::(k1,v1)::(k2,v2)::(k3,v3)::K):=by simp only [yv] at h;exact .cons h.1 (.cons h.2.1 (.cons h.2.2.1 (.cons h.2.2.2 r)))
theorem Looks.c8 {T:List (Nat×V)} {k0 k1 k2 k3 k4 k5 k6 k7:Nat} {v0 v1 v2 v3 v4 v5 v6 v7:V} {ks:List Nat} {K:List (Nat×V)} (h:(look k0 T,look k1 T,look k2 T,look k3 T,look k4 T,look k5 T,look k6 T,look k7 T)=(some v0,some v1,some v2,some v3,some v4,some v5,some v6,some v7)) (r:Looks T ks K):Looks T (k0::k1::k2::k3::k4::k5::k6::k7::ks) ((k0,v0)::(k1,v1)::(k2,v2)::(k3,v3)::(k4,v4)::(k5,v5)::(k6,v6)::(k7,v7)::K):=by simp only [yv] at h;exact .cons h.1 (.cons h.2.1 (.cons h.2.2.1 (.cons h.2.2.2.1 (.cons h.2.2.2.2.1 (.cons h.2.2.2.2.2.1 (.cons h.2.2.2.2.2.2.1 (.cons h.2.2.2.2.2.2.2 r)))))))
theorem Fz1.{u} {α:Sort u} {a b:α} {R:Prop} (h:a=b) (r:R):a=b∧R:=⟨h,r⟩
theorem Fz2 {α0 α1:Type} {a0 b0:α0} {a1 b1:α1} {R:Prop} (h:(a0,a1)=(b0,b1)) (r:R):a0=b0∧a1=b1∧R:=by simp only [yv] at h;exact ⟨h.1,h.2,r⟩
theorem FzE.{u} {α:Sort u} {a:α}:a=a∧True:=⟨rfl,trivial⟩
theorem Fz8 {α0 α1 α2 α3 α4 α5 α6 α7:Type} {a0 b0:α0} {a1 b1:α1} {a2 b2:α2} {a3 b3:α3} {a4 b4:α4} {a5 b5:α5} {a6 b6:α6} {a7 b7:α7} {R:Prop} (h:(a0,a1,a2,a3,a4,a5,a6,a7)=(b0,b1,b2,b3,b4,b5,b6,b7)) (r:R):a0=b0∧a1=b1∧a2=b2∧a3=b3∧a4=b4∧a5=b5∧a6=b6∧a7=b7∧R:=by simp only [yv] at h;exact ⟨h.1,h.2.1,h.2.2.1,h.2.2.2.1,h.2.2.2.2.1,h.2.2.2.2.2.1,h.2.2.2.2.2.2.1,h.2.2.2.2.2.2.2,r⟩
variable [ztS] [Drw]
theorem TriL.p {P:Program} {C:Ctx} {ops:Array Oper} {o:Oper} {rest:List Oper} {Q:Exit→St→Prop} {s:St} {v:V} (h:(o.guard,zup o.dst C.n)=(none,true)) (hv:OpV P o (ev s.T) s.H v) (k:TriL P C ops rest Q (s.put o.dst v)):TriL P C ops (o::rest) Q s:=by
 simp only [yv] at h
 exact .op h.1 h.2 hv k
theorem Tri.sr {P:Program} {C:Ctx} {Q:Exit→St→Prop} {s:St} {id:Nat} {l:List Oper} {y:Code} (h:TriL P C l.toArray l (zwL (Tri P C y Q) Q) s):Tri P C (.seq (.region id l.toArray false) y) Q s:=.seq (.region h)
section
variable {P:Program} {n:Nat} {ops:Array Oper} {H:List Blk} {o:Oper} {rest:List Oper} {al:List Ev} {T:List (Nat×V)} {K:List Ev→List (Nat×V)→Prop}
theorem TriQ.p {d:Nat} {v:V} (h:(o.guard,o.dst,Nat.blt d n,zal o)=(none,some d,true,false)) (hv:OpV P o (ev T) H v) (k:TriQ P n ops H rest al ((d,v)::T) K):TriQ P n ops H (o::rest) al T K:=by
 simp only [yv] at h
 exact .op h.1 h.2.1 h.2.2.1 h.2.2.2 hv k
theorem TriQ.q {d:Nat} {v:V} {j g:Nat} {want:Bool} (h:(o.guard,(ops[j]?).bind (·.dst),look g T,o.dst,Nat.blt d n,zal o)=(some (j,want),some g,some (.d (.bool want)),some d,true,false)) (hv:OpV P o (ev T) H v)
  (k:TriQ P n ops H rest al ((d,v)::T) K):TriQ P n ops H (o::rest) al T K:=by
 simp only [yv] at h
 exact .gop h.1 h.2.1 h.2.2.1 h.2.2.2.1 h.2.2.2.2.1 h.2.2.2.2.2 hv k
end
variable {P:Program} {o:Oper} {e:Operand→Option V} {H:List Blk}
theorem OpV.asg {x:Operand} {v:V} (h:(o.op,e x)=(.assign x,some v)):OpV P o e H v:=by
 simp only [yv] at h
 exact .assign h.1 h.2
theorem OpV.nt {t:TypeId} {x:Operand} {b:Bool} (h:(o.op,e x)=(.unOp .not t x,some (.d (.bool b)))):OpV P o e H (.d (.bool !b)):=by
 simp only [yv] at h
 exact .not h.1 h.2
theorem OpV.bx {t:TypeId} {x:Operand} {d:D} (h:(o.op,e x)=(.box t x,some (.d d))):OpV P o e H (.d (.ref d)):=by
 simp only [yv] at h
 exact .box h.1 h.2
theorem OpV.ad {t u:TypeId} {x y:Operand} {a b:Int} (h:(o.op,e x,e y)=(.binOp .add t x y u,some (.d (.int a)),some (.d (.int b)))):OpV P o e H (.d (.int (ztJ a b))):=by
 simp only [yv] at h
 exact .add6 h.1 h.2.1 h.2.2
theorem OpV.sb {t u:TypeId} {x y:Operand} {a b:Int} (h:(o.op,e x,e y)=(.binOp .sub t x y u,some (.d (.int a)),some (.d (.int b)))):OpV P o e H (.d (.int (zt2 a b))):=by
 simp only [yv] at h
 exact .sub6 h.1 h.2.1 h.2.2
theorem OpV.ls {t u:TypeId} {x y:Operand} {k:IntKind} {a b:Int} (h:(o.op,e x,e y)=(.binOp .lss t x y u,some (.d (.val (.int k a))),some (.d (.val (.int k b))))):OpV P o e H (.d (.bool (decide (a<b)))):=by
 simp only [yv] at h
 exact .lss h.1 h.2.1 h.2.2
theorem OpV.le {t u:TypeId} {x y:Operand} {k:IntKind} {a b:Int} (h:(o.op,e x,e y)=(.binOp .leq t x y u,some (.d (.val (.int k a))),some (.d (.val (.int k b))))):OpV P o e H (.d (.bool (decide (a≤b)))):=by
 simp only [yv] at h
 exact .leq h.1 h.2.1 h.2.2
theorem OpV.gt {t u:TypeId} {x y:Operand} {k:IntKind} {a b:Int} (h:(o.op,e x,e y)=(.binOp .gtr t x y u,some (.d (.val (.int k a))),some (.d (.val (.int k b))))):OpV P o e H (.d (.bool (decide (b<a)))):=by
 simp only [yv] at h
 exact .gtr h.1 h.2.1 h.2.2
theorem OpV.ge {t u:TypeId} {x y:Operand} {k:IntKind} {a b:Int} (h:(o.op,e x,e y)=(.binOp .geq t x y u,some (.d (.val (.int k a))),some (.d (.val (.int k b))))):OpV P o e H (.d (.bool (decide (b≤a)))):=by
 simp only [yv] at h
 exact .geq h.1 h.2.1 h.2.2
theorem OpV.eq {t u:TypeId} {x y:Operand} {k:IntKind} {a b:Int} (h:(o.op,e x,e y)=(.binOp .eql t x y u,some (.d (.val (.int k a))),some (.d (.val (.int k b))))):OpV P o e H (.d (.bool (a==b))):=by
 simp only [yv] at h
 exact .eql h.1 h.2.1 h.2.2
theorem OpV.ne {t u:TypeId} {x y:Operand} {k:IntKind} {a b:Int} (h:(o.op,e x,e y)=(.binOp .neq t x y u,some (.d (.val (.int k a))),some (.d (.val (.int k b))))):OpV P o e H (.d (.bool (a != b))):=by
 simp only [yv] at h
 exact .neq h.1 h.2.1 h.2.2
theorem OpV.fa {t:TypeId} {x:Operand} {i:Nat} {a b:D} (h:(o.op,e x)=(.fieldAddr t x i,some (.d (.ref a)))) (hf:Fld P t i a b):OpV P o e H (.d (.ref b)):=by
 simp only [yv] at h
 exact .fieldAddr h.1 h.2 hf
theorem OpV.ld {t:TypeId} {x:Operand} {d:D} {k:Option Nat} (ht:zZ P t=some k) (h:(o.op,e x,d.shape)=(.load t x,some (.d (.ref d)),k)):OpV P o e H (.d d):=by
 simp only [yv] at h
 exact .load h.1 h.2.1 ht h.2.2
theorem OpV.ix {α:Type} {t el:TypeId} {x i:Operand} {k:Nat} {l:List α} {enc:α→D} {a:Int} {v:α} (h:(o.op,e x,e i)=(.indexAddr t x i,some (.d (.sl k (l.map enc))),some (.d (.int a))))
  (ht:P.underlying t=some (.slice el)) (hs:(P.info? el).map (·.size)=some k) (hv:Go.Proofs.YtipkniadbkndfaaGreatDoor.idx l a=some v):OpV P o e H (.d (.ref (enc v))):=by
 simp only [yv] at h
 exact .idx h.1 h.2.1 h.2.2 ht hs hv
section
variable {P:Program} {C:Ctx} {ops:Array Oper} {o o':Oper} {rest:List Oper} {Q:Exit→St→Prop} {s:St} {v:V} {x y:Operand} {t u:TypeId} {i:Nat} {a b:D} {k:Option Nat}
theorem TriL.m (h:(o.guard,zup o.dst C.n,o.op,ev s.T x)=(none,true,.move x,some v)) (r:TriL P C ops rest Q (s.put o.dst v)):TriL P C ops (o::rest) Q s:=by
 simp only [yv] at h
 exact .op h.1 h.2.1 (.move h.2.2.1 h.2.2.2) r
theorem TriL.z (h:(o.guard,zup o.dst C.n,o.op,ev s.T x)=(none,true,.assign x,some v)) (r:TriL P C ops rest Q (s.put o.dst v)):TriL P C ops (o::rest) Q s:=by
 simp only [yv] at h
 exact .op h.1 h.2.1 (.assign h.2.2.1 h.2.2.2) r
theorem TriL.f (h:(o.guard,zup o.dst C.n,o.op,ev s.T x)=(none,true,.fieldAddr t x i,some (.d (.ref a)))) (hf:Fld P t i a b) (ht:zZ P u=some k)
  (h':(o'.guard,zup o'.dst C.n,o'.op,ev (s.put o.dst (.d (.ref b))).T y,b.shape)=(none,true,.load u y,some (.d (.ref b)),k)) (r:TriL P C ops rest Q ((s.put o.dst (.d (.ref b))).put o'.dst (.d b))):TriL P C ops (o::o'::rest) Q s:=by
 simp only [yv] at h h'
 exact .op h.1 h.2.1 (.fieldAddr h.2.2.1 h.2.2.2 hf) (.op h'.1 h'.2.1 (.load h'.2.2.1 h'.2.2.2.1 ht h'.2.2.2.2) r)
end
section
variable {P:Program} {n:Nat} {ops:Array Oper} {H:List Blk} {l:List Oper} {p o o':Oper} {rest:List Oper} {al:List Ev} {T:List (Nat×V)} {K:List Ev→List (Nat×V)→Prop} {x y:Operand} {v:V} {d d' j j' g g' r i:Nat} {w w' bo b2:Bool} {t u:TypeId} {a b:D} {k:Option Nat}
theorem TriQ.m (h:(o.guard,o.dst,Nat.blt d n,o.op,ev T x)=(none,some d,true,.move x,some v)) (r:TriQ P n ops H rest al ((d,v)::T) K):TriQ P n ops H (o::rest) al T K:=by
 simp only [yv] at h
 exact .op h.1 h.2.1 h.2.2.1 (by simp [zal,h.2.2.2.1]) (.move h.2.2.2.1 h.2.2.2.2) r
theorem TriQ.z (h:(o.guard,o.dst,Nat.blt d n,o.op,ev T x)=(none,some d,true,.assign x,some v)) (r:TriQ P n ops H rest al ((d,v)::T) K):TriQ P n ops H (o::rest) al T K:=by
 simp only [yv] at h
 exact .op h.1 h.2.1 h.2.2.1 (by simp [zal,h.2.2.2.1]) (.assign h.2.2.2.1 h.2.2.2.2) r
theorem TriQ.f (h:(o.guard,o.dst,Nat.blt d n,o.op,ev T x)=(none,some d,true,.fieldAddr t x i,some (.d (.ref a)))) (hf:Fld P t i a b) (ht:zZ P u=some k)
  (h':(o'.guard,o'.dst,Nat.blt d' n,o'.op,ev ((d,.d (.ref b))::T) y,b.shape)=(none,some d',true,.load u y,some (.d (.ref b)),k)) (r:TriQ P n ops H rest al ((d',.d b)::(d,.d (.ref b))::T) K):TriQ P n ops H (o::o'::rest) al T K:=by
 simp only [yv] at h h'
 exact .op h.1 h.2.1 h.2.2.1 (by simp [zal,h.2.2.2.1]) (.fieldAddr h.2.2.2.1 h.2.2.2.2 hf) (.op h'.1 h'.2.1 h'.2.2.1 (by simp [zal,h'.2.2.2.1]) (.load h'.2.2.2.1 h'.2.2.2.2.1 ht h'.2.2.2.2.2) r)
theorem TriQ.qf (h:(o.guard,(ops[j]?).bind (·.dst),look g T,o.dst,Nat.blt d n,o.op,ev T x)=(some (j,w),some g,some (.d (.bool w)),some d,true,.fieldAddr t x i,some (.d (.ref a)))) (hf:Fld P t i a b) (ht:zZ P u=some k)
  (h':(o'.guard,(ops[j']?).bind (·.dst),look g' ((d,.d (.ref b))::T),o'.dst,Nat.blt d' n,o'.op,ev ((d,.d (.ref b))::T) y,b.shape)=(some (j',w'),some g',some (.d (.bool w')),some d',true,.load u y,some (.d (.ref b)),k)) (r:TriQ P n ops H rest al ((d',.d b)::(d,.d (.ref b))::T) K):TriQ P n ops H (o::o'::rest) al T K:=by
 simp only [yv] at h h'
 exact .gop h.1 h.2.1 h.2.2.1 h.2.2.2.1 h.2.2.2.2.1 (by simp [zal,h.2.2.2.2.2.1]) (.fieldAddr h.2.2.2.2.2.1 h.2.2.2.2.2.2 hf) (.gop h'.1 h'.2.1 h'.2.2.1 h'.2.2.2.1 h'.2.2.2.2.1 (by simp [zal,h'.2.2.2.2.2.1]) (.load h'.2.2.2.2.2.1 h'.2.2.2.2.2.2.1 ht h'.2.2.2.2.2.2.2) r)
theorem TriQ.jA (m:Nat) (b2:Bool) (h:(l.drop m,p.op,look g T,zgr ops n g true (l.take m) [],p.guard,p.dst,Nat.blt d n)=(p::rest,.pick (.tmp g) (.tmp r) (.const (.bool false)),some (.d (.bool bo)),true,none,some d,true))
  (h1:bo=true→TriQ P n ops H (l.take m) al ((g,.d (.bool true))::T) (λ_ T'=>look r T'=some (.d (.bool b2))))
  (h2:TriQ P n ops H rest al ((d,.d (.bool (bo&&b2)))::zwI (dsts (l.take m)) T) K):TriQ P n ops H l al T K:=by
 simp only [yv] at h
 exact .jAnd m h.1 h.2.1 h.2.2.1 h.2.2.2.1 (.inl h.2.2.2.2.1) (λ_ _ _ q=>by rw [h.2.2.2.2.1] at q;cases q) h.2.2.2.2.2.1 h.2.2.2.2.2.2 h1 h2
theorem TriQ.jO (m:Nat) (b2:Bool) (h:(l.drop m,p.op,look g T,zgr ops n g false (l.take m) [],p.guard,p.dst,Nat.blt d n)=(p::rest,.pick (.tmp g) (.const (.bool true)) (.tmp r),some (.d (.bool bo)),true,none,some d,true))
  (h1:bo=false→TriQ P n ops H (l.take m) al ((g,.d (.bool false))::T) (λ_ T'=>look r T'=some (.d (.bool b2))))
  (h2:TriQ P n ops H rest al ((d,.d (.bool (bo||b2)))::zwI (dsts (l.take m)) T) K):TriQ P n ops H l al T K:=by
 simp only [yv] at h
 exact .jOr m h.1 h.2.1 h.2.2.1 h.2.2.2.1 (.inl h.2.2.2.2.1) (λ_ _ _ q=>by rw [h.2.2.2.2.1] at q;cases q) h.2.2.2.2.2.1 h.2.2.2.2.2.2 h1 h2
end
theorem rO {R:Type} {P:Program} {t:Tmp} {e r:R} {enc:R→D} {s:St} (h:some e=some r) (hl:look t s.T=some (.d (enc e))):retQ P #[.tmp t] (enc r) .ret s:=by
 cases h
 exact zbU hl (.d _)
end
section
variable [ztS] [Drw]
def zwc (s':St) (e:Exit) (s:St):Prop:=e = .normal∧s=s'
theorem Oper.zw9 {P:Program} {C:Ctx} {s':St} {o:Oper} {a:Act} {w:World} {K:Act→World→Prop} {Q:Exit→Act→World→Prop}
  (hK:∀ a w,(∃ bs,R C bs s' a w)→K a w) (h:o.wp P a w (QR C (zwc s') .normal) (QR C (zwc s'))):o.wp P a w K Q:=by
 have hn:∀ a w,QR C (zwc s') .normal a w→K a w:=λa w h=>by
  rcases h with ⟨bs',s1,⟨_,rfl⟩,hR⟩ | ⟨h,_⟩
  ·exact hK a w ⟨bs',hR⟩
  ·cases h
 have hp:∀ c a w,¬ QR C (zwc s') (.panic c) a w:=λc a w h=>by
  rcases h with ⟨bs',s1,⟨h,_⟩,hR⟩ | ⟨h,_⟩ <;> cases h
 have ho:¬ LetsOut (QR C (zwc s')):=λ⟨a,w,h⟩=>by
  rcases h with ⟨bs',s1,⟨h,_⟩,hR⟩ | ⟨h,_⟩ <;> cases h
 unfold Oper.wp at *;generalize (execOp a.eval o).run P w=r at *;cases r with
 | ok n w'=>
  cases n <;> simp only [Oper.upon] at h ⊢
  case value u=>exact hn _ _ h
  case skip=>exact hn _ _ h
  case defer d=>exact hn _ _ h
  case enter f args=>
   refine Calls.mono h λe w'' he=>?_
   cases e with
   | returned u=>exact hn _ _ he
   | panicked c=>exact absurd he (hp _ _ _)
   | outgrown=>exact absurd he ho
  case row row args=>exact Rows.mono h λu w'' he=>hn _ _ he
 | halt x w'=>
  cases x <;> simp only [Oper.upon] at h ⊢
  case panic u=>exact absurd h (hp _ _ _)
theorem TriL.one {P:Program} {C:Ctx} {ops:Array Oper} {o:Oper} {s s':St} (h:TriL P C ops [o] (zwc s') s) {i:Nat} (hi:ops[i]? = some o) {bs:List (Option Nat)} {a:Act} {w:World} (hR:R C bs s a w) {K:Act→World→Prop} {Q:Exit→Act→World→Prop}
  (hK:∀ a w,(∃ bs,R C bs s' a w)→K a w):wpOp P ops Q i K a w:=by
 have h1:=h.run bs a w hR;unfold wpOp;simp only [hi];unfold wpList at h1;split
 ·rename_i hw;rw [if_pos hw] at h1;rcases h1 with h1 | ⟨_,a1,w1,h1⟩
  ·exact .inl (Oper.zw9 hK h1)
  ·rcases h1 with ⟨bs',s1,⟨h,_⟩,hR⟩ | ⟨h,_⟩ <;> cases h
 ·rename_i hw;rw [if_neg hw] at h1;rcases h1 with ⟨bs',s1,⟨_,rfl⟩,hR⟩ | ⟨h,_⟩
  ·exact hK _ _ ⟨bs',hR⟩
  ·cases h
structure TriA (P:Program) (C:Ctx) (ops:Array Oper) (fuel:Nat) (listed:Array Bool) (Q:Exit→St→Prop) (s:St):Prop where
 run:∀ bs a w,R C bs s a w→wpAny P .any ops (QR C Q) fuel listed a w
inductive Nexts (P:Program) (C:Ctx) (ops:Array Oper) (fuel:Nat) (listed:Array Bool) (Q:Exit→St→Prop) (s:St):List Nat→Prop
 | nil:Nexts P C ops fuel listed Q s []
 | cons {i:Nat} {o:Oper} {s':St} {is:List Nat}:ops.toList[i]? = some o→TriL P C ops [o] (zwc s') s→TriA P C ops fuel (listed.setIfInBounds i true) Q s'→Nexts P C ops fuel listed Q s is→Nexts P C ops fuel listed Q s (i::is)
theorem TriA.step {P C ops fuel listed Q s} (i is) (hr:Region.ready .any ops listed=i::is) (h:Nexts P C ops fuel listed Q s (i::is)):TriA P C ops (fuel+1) listed Q s:=by
 refine ⟨λbs a w hR=>⟨λh0=>(by rw [hr] at h0;cases h0),?_⟩⟩;rw [hr];clear hr;generalize i::is=rs at h
 induction h with
 | nil=>intro j hj;cases hj
 | cons h1 h2 h3 _ ih=>
  intro j hj;rcases yI.1 hj with rfl | hj
  ·exact h2.one (by simpa using h1) hR λa w ⟨bs',hR'⟩=>h3.run bs' a w hR'
  ·exact ih j hj
theorem TriA.to {P C ops fuel listed Q s} (listed') (e:listed=listed') (h:TriA P C ops fuel listed' Q s):TriA P C ops fuel listed Q s:=by subst e;exact h
end
section
variable [ztS] [Drw]
theorem TriL.eqD {P C ops rest Q T H} (t) {d d'} (ht:look t T=some (.d d)) (e:d=d') (k:TriL P C ops rest Q ⟨(t,.d d')::T,H⟩):TriL P C ops rest Q ⟨T,H⟩:=by
 subst e;exact ⟨λ_ a w hR=>k.run _ a w (hR.know (hR.tmp t _ ht).1 (hR.tmp t _ ht).2)⟩
end
section
variable [ztS] [Drw]
theorem TriA.via {P C ops fuel listed Q s} (f l' s') (h:TriA P C ops f l' Q s') (k:TriA P C ops f l' Q s'→TriA P C ops fuel listed Q s):TriA P C ops fuel listed Q s:=k h
theorem TriA.zvU {P C ops fuel listed Q T K H} (ks) (hK:Looks T ks K) (h:TriA P C ops fuel listed Q ⟨K,H⟩):TriA P C ops fuel listed Q ⟨T,H⟩:=
 ⟨λbs a w hR=>h.run bs a w (hR.weaken hK.sub.look)⟩
section
variable {P:Program} {C:Ctx} {ops:Array Oper} {o:Oper} {rest:List Oper} {Q:Exit→St→Prop} {T:List (Nat×V)} {H:List Blk} {e:Operand→Option V}
theorem zp8 {bs:List (Option Nat)} {i:Nat} {c:Option Nat} (h:bs[i]? = some c):bs.set i c=bs:=by
 refine ud λq=>?_
 by_cases hij:i=q
 ·subst hij;rw [yu (yc.1 h).1,h]
 ·rw [yw hij]
theorem TriL.buildQue {α:Type} {t el:TypeId} {len k bytes d:Nat} {parts:Array (Nat×Operand)} {enc:α→D} (xs:List α)
  (hg:o.guard=none) (ho:o.op = .buildSlice t len parts) (hd:o.dst=some d) (hdn:Nat.blt d C.n=true) (hp:parts.toList.map (·.1)=List.range' 0 len) (he:zbq P t el k bytes=true) (hx:evs (ev T) (parts.toList.map (·.2))=some (xs.map enc))
  (hk:∀ x,(enc x).kOK k=true) (hl:Nat.ble (len*k) 16777216=true)
  (kk:TriL P C ops rest Q ⟨(d,.que H.length 0)::T,H++[.que 0 el k (xs.map enc)]⟩):TriL P C ops (o::rest) Q ⟨T,H⟩:=by
 obtain ⟨htu,hk0,inf,z,hinf,hz,hisz,hib,hzc⟩:=zbA he;refine TriL.step hg (λbs a w hR=>?_) kk;have hreps:D.reps (Own C.A0 bs) w (xs.map enc) ((parts.toList.map (·.2)).map a.eval):=zff (H:=H) hx (λx _ y hy=>hR.ev hy);have hcells:=D.zvv hreps (k:=k) (by intro d hd;obtain ⟨x,_,rfl⟩:=yZ.1 hd;exact hk x);have hlen:=congrArg List.length hp;simp only [yL,List.length_range',yt] at hlen;have hkk:∀ u∈(parts.toList.map (·.2)).map a.eval,u.cells.size=k:=by
  intro u hu;obtain ⟨i,hi,rfl⟩:=List.getElem_of_mem hu;have hl2:=D.zub hreps;have hi':i<(xs.map enc).length:=by rw [← hl2];exact hi
  obtain ⟨v,hv,hr⟩:=D.zuE hreps i (xs.map enc)[i] (yC hi');rw [yC hi] at hv;cases hv;rw [List.getElem_map] at hr;exact D.zvL hr (hk _)
 obtain ⟨cells,g1,g2⟩:=zfz (P:=P) (w:=w) (k:=k) htu hinf hz hisz hzc hkk (by
  have:=yf hl;simp only [yL,yt,hlen];omega)
 have hzip:=znR (β:=D) parts.toList 0 (by rw [hp];simp [hlen]);have harr:(parts.map λ(i,x)=>(i,a.eval x))=((((parts.toList.map (·.2)).map a.eval).zipIdx 0).map λp=>(p.2,p.1)).toArray:=by
  apply Array.ext';rw [Array.toList_map]
  conv=>lhs;rw [hzip]
  simp only [List.zipIdx_map,uU];rfl
 have hrun:(execOp a.eval o).run P w = .ok (.value (.slice (some ⟨w.heap.size,0,none⟩) len len)) (w.alloc (.cells cells el)):=by
  simp only [yL,yt,hlen] at g2;simp only [execOp,ho,Sem.run_bind,harr,g2,Result.andThen_ok,Sem.run_pure]
 have hxl:xs.length=len:=by have:=D.zub hreps;simp at this;omega
 have hcl:cells.size=len*k:=by
  have:=D.zu6 hcells;rw [← g1] at this;simp only [yt,yL] at this;rw [this,hxl]
 refine ⟨_,_,bs++[some w.heap.size],hrun,.inl ⟨_,rfl,?_⟩⟩;have hl2:=hR.len;simp only at hl2;have h2:=hR.newObj (.cells cells el) (.que 0 el k (xs.map enc)) (by simp only [Blk.rep]);have hfr:Fr ze w (w.alloc (.cells cells el)):=⟨rfl,rfl,rfl,by simp,λb hb _=>Below.heap_alloc w _ b hb,λ_=>yk _⟩
 have hA0:∀ b,b<w.heap.size→Own C.A0 (bs++[some w.heap.size]) b→Own C.A0 bs b:=λb hb hb'=>by
  rcases hb' with hb' | hb'
  ·exact .inl hb'
  ·rcases yr.1 hb' with hb' | hb'
   ·exact .inr hb'
   ·simp only [yG,yj] at hb';omega
 have:=h2.put (Fr.refl _ _) (some d) (by simpa [zup] using hdn) (v:=.que H.length 0) (u:=.slice (some ⟨w.heap.size,0,none⟩) len len) (by
  simp only [V.rep];rw [yF (yk _)];simp only [uu,yP];refine ⟨yk _,λ_=>⟨w.heap.size,0,len,by rw [← hl2];simp,by rw [yL,hxl],?_⟩⟩;refine ⟨by rw [yL,hxl];exact yk _,cells,heap_alloc_new w _,by rw [hcl];omega,cells.toList,?_,λj v hv=>by simpa using hv⟩;rw [g1];exact D.zug hfr (λ_ x=>x.elim) hA0 _ _ hcells)
 rw [hd];exact this
theorem OpV.lenQ {x t el k i s t'} {xs:List D} (ho:o.op = .call { callee:=.builtin .len,args:=#[x],argTypes:=#[t] }) (ht:P.underlying t=some (.slice t')) (hx:e x=some (.que i s)) (hi:H[i]? = some (.que s el k xs)):OpV P o e H (.d (.int (xs.length:Int))):=
 .of_same λA0 bs w f m hw=>by
  have h1:=hw x (by simp [ho,Op.operands,Call.operands]) _ hx;simp only [V.rep,hi] at h1;obtain ⟨b,off,cap,_,hp,_⟩:=h1.2 trivial;refine ⟨.int .i64 xs.length,?_,zr.2 rfl⟩;simp [execOp,ho,resolve,invoke,builtin,Builtin.len_,hp,run_underlying ht,goInt]
theorem OpV.lenQL {α:Type} {x t el k i s t'} {enc:α→D} {l:List α} (ho:o.op = .call { callee:=.builtin .len,args:=#[x],argTypes:=#[t] }) (ht:P.underlying t=some (.slice t')) (hx:e x=some (.que i s)) (hi:H[i]? = some (.que s el k (l.map enc))):OpV P o e H (.d (.int (l.length:Int))):=by
 have:=OpV.lenQ (P:=P) (o:=o) (e:=e) (H:=H) ho ht hx hi
 rwa [yL] at this
theorem OpV.idxQ {α:Type} {t el el' x i} {k bi s:Nat} {l:List α} {enc:α→D} {a:Int} {v:α} (ho:o.op = .indexAddr t x i) (hx:e x=some (.que bi s)) (hb:H[bi]? = some (.que s el' k (l.map enc))) (hi:e i=some (.d (.int a)))
  (ht:P.underlying t=some (.slice el)) (hs:(P.info? el).map (·.size)=some k) (hv:Go.Proofs.YtipkniadbkndfaaGreatDoor.idx l a=some v):OpV P o e H (.qel bi s a.toNat):=by
 obtain ⟨j,rfl,hj,rfl⟩:=idxS hv;refine .of_same λA0 bs w f m hw=>?_
 have h1:=hw x (by simp [ho,Op.operands]) _ hx;have h2:=zr.1 (hw i (by simp [ho,Op.operands]) _ hi);simp only [V.rep,hb] at h1;obtain ⟨b,off,cap,hbs,hp,hq⟩:=h1.2 trivial;cases hinf:P.info? el with
 | none=>simp [hinf] at hs
 | some inf=>
  have hsz:inf.size=k:=by simpa [hinf] using hs
  refine ⟨.pointer (some ⟨b,off+j*k,none⟩),?_,?_⟩
  ·have hlen:(0:Int)≤j∧(j:Int)<((l.map enc).length:Nat):=by rw [yL];omega
   simp only [execOp,ho,hp,h2,Instr.indexAt,asIntOf,Sem.run_bind,Sem.run_pure,Result.andThen_ok,run_underlying ht];rw [if_pos hlen];simp [sizeOf,typeInfo,hinf,hsz,Addr.add_lit]
  ·simp only [V.rep,hb];exact ⟨yk _,λ_=>⟨b,off,cap,hbs,by simp,by simpa using hj,hq⟩⟩
theorem OpV.loadQ {α:Type} {t el x} {i s k:Nat} {sh:Option Nat} {l:List α} {enc:α→D} {a:Int} {v:α} (ho:o.op = .load t x) (hx:e x=some (.qel i s a.toNat)) (hi:H[i]? = some (.que s el k (l.map enc))) (hv:Go.Proofs.YtipkniadbkndfaaGreatDoor.idx l a=some v)
  (ht:zZ P t=some sh) (hk:(enc v).shape=sh):OpV P o e H (.d (enc v)):=
 .of_same λA0 bs w f m hw=>by
  obtain ⟨j,rfl,hj,rfl⟩:=idxS hv;have h1:=hw x (by simp [ho,Op.operands]) _ hx;simp only [V.rep,hi] at h1;obtain ⟨b,off,cap,_,hp,_,hq⟩:=h1.2 trivial;obtain ⟨hle,cells,hh,hsz,cs,hfl,hcs⟩:=hq;obtain ⟨z,g1,g2,g3⟩:=D.zwq hfl j (by simpa using hj);simp only [List.getElem_map] at g1;simp only [yz] at hp;have hc:zdj w b (off+j*k) z:=λq hq=>by
   have h4:=g3 q (by omega);rw [zV hh,← h4];cases h5:cs[j*k+q]? with
   | none=>
    rw [h5] at h4;rw [um hq] at h4;cases h4
   | some u=>rw [Nat.add_assoc];exact hcs _ _ h5
  refine ⟨z,?_,by simp only [V.rep];exact g1⟩;simp only [execOp,ho,hp,Sem.run_bind,zco ht g1 hk hc,Result.andThen_ok,Sem.run_pure]
theorem D.zx8 {A w k} (n:Nat) {xs:List D} {cells:List Value} (h:D.flat A w k xs cells):D.flat A w k (xs.drop n) (cells.drop (n*k)):=(D.zu0 n h).2
theorem TriL.queTail {α:Type} {t el el' x y} {d i s k:Nat} {l r:List α} {enc:α→D} {lo:Int} (hg:o.guard=none) (ho:o.op = .slice t x (some y) none none) (hd:o.dst=some d) (hdn:Nat.blt d C.n=true) (hx:ev T x=some (.que i s)) (hi:H[i]? = some (.que s el' k (l.map enc))) (hy:ev T y=some (.d (.int lo)))
  (ht:P.underlying t=some (.slice el)) (hs:(P.info? el).map (·.size)=some k) (hr:cut l lo (l.length:Int)=some r)
  (kk:TriL P C ops rest Q ⟨(d,.que i (s+1))::T,H.set i (.que (s+1) el' k (r.map enc))⟩):TriL P C ops (o::rest) Q ⟨T,H⟩:=by
 obtain ⟨a,b,rfl,hb,h1,h2,rfl⟩:=cutS hr;have hb':l.length=b:=by omega
 subst hb';refine TriL.step hg (λbs act w hR=>?_) kk;have e1:=hR.ev hx;have e2:=zr.1 (hR.ev hy);simp only [V.rep,hi] at e1;obtain ⟨g,off,cap,hbs,hp,hle,cells,hh,hsz,cs,hfl,hcs⟩:=e1.2 trivial;simp only [yL] at hp hle;cases hinf:P.info? el with
 | none=>simp [hinf] at hs
 | some inf=>
  have hszk:inf.size=k:=by simpa [hinf] using hs
  have hel:P.elem t=el:=by simp [Program.elem,ht]
  have hck:P.cellsOf el=k:=by simp [Program.cellsOf,hinf,hszk]
  have hrun:(execOp act.eval o).run P w = .ok (.value (sliced (some ⟨g,off,none⟩) a l.length cap k)) w:=by
   have:=run_slice_l (P:=P) w t (some ⟨g,off,none⟩) l.length cap (by rw [hel];exact ht) .i64 a (by omega) (by omega);rw [hel,run_sizeOf w hinf,hck] at this;simp only [yz,Result.andThen_ok] at this;simp only [execOp,ho,hp,e2,yT,Option.map_none,Sem.run_bind,run_sliceAt_slice w t _ _ _ _ (by rw [hel];exact ht),this,Result.andThen_ok,Sem.run_pure]
  refine ⟨_,_,bs,hrun,.inl ⟨_,rfl,?_⟩⟩;have hset:=zp8 hbs;have hfr:Fr (λc=>some g=some c) w w:=Fr.refl _ w;have hupd:=R.upd (y:=.que (s+1) el' k (((l.drop a).take (l.length - a)).map enc)) (c:=some g) (c':=some g) hR hi hbs (by simp only [Compat];omega) hfr (.inl rfl) (by simp only [Blk.rep]);rw [hset] at hupd;have hli:=(yc.1 hi).1;have hlen:(l.drop a).take (l.length - a)=l.drop a:=List.take_of_length_le (by simp);rw [hlen] at hupd ⊢;have:=hupd.put (Fr.refl _ _) (some d) (by simpa [zup] using hdn) (v:=.que i (s+1)) (u:=sliced (some ⟨g,off,none⟩) a l.length cap k) (by
   simp only [V.rep,yu hli];refine ⟨yk _,λ_=>?_⟩;have hfl2:=D.zx8 a hfl;rw [← List.map_drop] at hfl2;by_cases hca:cap=a
   ·subst hca;refine ⟨g,off,0,hbs,by simp [sliced],?_⟩;have:l.drop cap=[]:=List.drop_eq_nil_of_le (by omega);rw [this];exact ⟨by simp,cells,hh,by simp;omega,[],by simp [D.flat],by simp⟩
   ·refine ⟨g,off+a*k,cap - a,hbs,by simp [sliced,hca,Addr.add_lit],by simp;omega,cells,hh,?_,cs.drop (a*k),hfl2,λj v hv=>?_⟩
    ·have:a*k+(cap - a)*k=cap*k:=by rw [← Nat.add_mul];congr 1;omega
     omega
    ·rw [uR] at hv;rw [Nat.add_assoc];exact hcs _ _ hv)
  rw [hd];exact this
theorem zja {P:Program} (w:World) (t ty e:TypeId) (i:TypeInfo) (ht:P.underlying t=some (.slice e)) (hi:P.info? e=some i)
  (g off sLen sCap:Nat) (cur:Array Value) (hg:w.heap[g]? = some (.cells cur e (0,0)))
  (a:Addr) (m c:Nat) (news:List Value) (hl:news.length=m*i.size) (hnews:∀ j u,news[j]? = some u→w.cell? (a.add j)=some u) (h1:∀ u∈news,u.oneCell'=true)
  (hroom:sLen+m≤sCap) (hfit:off+sLen*i.size+news.length≤cur.size) :
  (Builtin.append_ #[t,t] ty #[.slice (some ⟨g,off,none⟩) sLen sCap,.slice (some a) m c]).run P w =
   .ok (.slice (some ⟨g,off,none⟩) (sLen+m) sCap) (w.setRow g (cur.toList.take (off+sLen*i.size)++news++cur.toList.drop (off+sLen*i.size+news.length)).toArray):=by
 have hf:=run_firstCells_some (P:=P) w i.size m a m c news hl hnews;have hst:=run_storeCells_at P g (off+sLen*i.size) e news 0 cur w hg (by simpa using hfit) h1;simp only [ut] at hst;simp [Builtin.append_,run_underlying ht,sizeOf,typeInfo,hi,Builtin.lenOf,hroom,hf,Addr.add_lit,hst]
theorem zq5 {w:World} {g:Nat} {c:Array Value}:Fr (λb=>some g=some b) w (w.setRow g c):=⟨rfl,rfl,rfl,by simp,λk _ hno=>setRow_other w g k _ (λe=>hno (by rw [e])),λ_=>yk _⟩
theorem TriL.queApp {α:Type} {x y:Operand} {t el:TypeId} {i s k bytes d:Nat} {enc:α→D} {xs ys zs:List α}
  (hg:o.guard=none) (ho:o.op = .call { callee:=.builtin .append,args:=#[x,y],argTypes:=#[t,t] }) (hd:o.dst=some d) (hdn:Nat.blt d C.n=true)
  (hx:ev T x=some (.que i s)) (hi:H[i]? = some (.que s el k (xs.map enc))) (hy:ev T y=some (.d (.sl k (ys.map enc)))) (ht:zbq P t el k bytes=true) (hb:Nat.blt 0 bytes=true) (hones:∀ z,(enc z).ones=true)
  (hne:ys≠[]) (hv:Go.Proofs.YtipkniadbkndfaaGreatDoor.app bytes xs ys=some zs)
  (kk:TriL P C ops rest Q ⟨(d,.que i (s+1))::T,H.set i (.que (s+1) el k (zs.map enc))⟩):TriL P C ops (o::rest) Q ⟨T,H⟩:=by
 obtain ⟨rfl,hsz⟩:=appS hv;simp only [uJ] at hb;have hml:xs.length+ys.length≤maxLen:=by
  have:xs.length+ys.length≤(xs.length+ys.length)*bytes:=Nat.le_mul_of_pos_right _ hb;simp only [maxLen];omega
 obtain ⟨htu,hk0,inf,z,hinf,hz,hisz,hib,hzc⟩:=zbA ht;refine TriL.step hg (λbs act w hR=>?_) kk;have e1:=hR.ev hx;have e2:=hR.ev hy;simp only [V.rep,hi] at e1;obtain ⟨g,off,cap,hbs,hp,hle,cells,hh,hcsz,cs,hfl,hcs⟩:=e1.2 trivial;simp only [yL] at hp hle;simp only [V.rep,D.rep] at e2;obtain ⟨ad,cap2,hp2,hcap2,hrow⟩:=e2;rcases hrow with hrow | ⟨b2,off2,rfl,hb2A,hb2,hrow⟩
 ·exact absurd (by simpa using hrow) hne
 obtain ⟨news,hfl2,hnews⟩:=D.zws _ _ hrow;have hnl:=D.zu6 hfl2;have hcl:=D.zu6 hfl;simp only [yL] at hnl hcl hp2;have hones2:∀ u∈news,u.oneCell'=true:=D.zvK (λd hd=>by obtain ⟨q,_,rfl⟩:=yZ.1 hd;exact hones q) hfl2;have hli:=(yc.1 hi).1;have hgo:Own C.A0 bs g:=.inr (yx hbs);have hWA:∀ c,some g=some c→Own C.A0 bs c:=λc hc=>by cases hc;exact hgo
 have hfl3:D.flat (Own C.A0 bs) w k ((xs++ys).map enc) (cs++news):=by rw [uw];exact D.zvk hfl hfl2
 have hnk:(xs.length+ys.length)*k=xs.length*k+ys.length*k:=Nat.add_mul _ _ _;by_cases hroom:xs.length+ys.length≤cap
 ·have hck:xs.length*k+ys.length*k≤cap*k:=by rw [← hnk];exact yS _ hroom
  have hr:=zja (P:=P) w t o.type el inf htu hinf g off xs.length cap cells hh ⟨b2,off2,none⟩ ys.length cap2 news (by rw [hnl,hisz]) (λj u hu=>by rw [Addr.add_lit];exact hnews j u hu) hones2 hroom (by rw [hnl,hisz];omega);rw [hisz] at hr;obtain ⟨nw,hnw⟩:∃ nw,nw=(cells.toList.take (off+xs.length*k)++news++cells.toList.drop (off+xs.length*k+news.length)).toArray:=⟨_,rfl⟩
  rw [← hnw] at hr;have hrun:(execOp act.eval o).run P w = .ok (.value (.slice (some ⟨g,off,none⟩) (xs.length+ys.length) cap)) (w.setRow g nw):=by
   simp only [execOp,ho,resolve,invoke,builtin,Sem.run_bind,Sem.run_pure,Result.andThen_ok,List.map_toArray,yV,List.map_nil,hp,hp2,hr]
  refine ⟨_,_,bs,hrun,.inl ⟨_,rfl,?_⟩⟩;have hfr:Fr (λc=>some g=some c) w (w.setRow g nw):=zq5;have hupd:=R.upd (y:=.que (s+1) el k ((xs++ys).map enc)) (c:=some g) (c':=some g) hR hi hbs (by simp only [Compat];omega) hfr (.inl rfl) (by simp only [Blk.rep]);rw [zp8 hbs] at hupd;have:=hupd.put (Fr.refl _ _) (some d) (by simpa [zup] using hdn) (v:=.que i (s+1)) (u:=.slice (some ⟨g,off,none⟩) (xs.length+ys.length) cap) (by
   simp only [V.rep,yu hli];refine ⟨yk _,λ_=>⟨g,off,cap,hbs,by simp,by simpa using hroom,nw,setRow_heap w g cells nw el _ hh,?_,cs++news,D.zug hfr hWA (λ_ _ h=>h) _ _ hfl3,λj v hv=>?_⟩⟩
   ·rw [hnw];simp;omega
   ·have l1:(cells.toList.take (off+xs.length*k)).length=off+xs.length*k:=by simp;omega
    rw [hnw,List.getElem?_toArray,yM];by_cases hj:j<cs.length
    ·rw [yh hj] at hv;rw [yh (by rw [l1];omega),List.getElem?_take_of_lt (by omega)];have:=hcs j v hv;simpa using this
    ·rw [yF (by omega)] at hv;rw [yF (by rw [l1];omega),l1,yh (by have:=(yc.1 hv).1;omega),← hv];congr 1;omega)
  rw [hd];exact this
 ·have holds:∀ j v,cs[j]? = some v→w.cell? ((⟨g,off,none⟩:Addr).add j)=some v:=λj v hv=>by
   rw [Addr.add_lit,zV hh];exact hcs j v hv
  have hr:=run_append_grow (P:=P) w t o.type el inf z htu hinf hz ⟨g,off,none⟩ xs.length cap cs (by rw [hcl,hisz]) holds ⟨b2,off2,none⟩ ys.length cap2 news (by rw [hnl,hisz]) (λj u hu=>by rw [Addr.add_lit];exact hnews j u hu) (by omega) (by simp only [maxLen] at hml;omega) (growslice_fits (by omega) (by rw [hib];exact hsz));obtain ⟨nc,hnc⟩:∃ nc,nc=grownCap w (xs.length+ys.length) cap el:=⟨_,rfl⟩
  have hge:xs.length+ys.length≤nc:=by rw [hnc];exact grownCap_ge w (xs.length+ys.length) cap el
  rw [← hnc] at hr;obtain ⟨nw,hnw⟩:∃ nw,nw=cs.toArray++news.toArray++Builtin.zeroCells z.cells (nc - (xs.length+ys.length)):=⟨_,rfl⟩
  rw [← hnw] at hr;have hrun:(execOp act.eval o).run P w = .ok (.value (.slice (some ⟨w.heap.size,0,none⟩) (xs.length+ys.length) nc)) (w.drew.alloc (.cells nw el)):=by
   simp only [execOp,ho,resolve,invoke,builtin,Sem.run_bind,Sem.run_pure,Result.andThen_ok,List.map_toArray,yV,List.map_nil,hp,hp2,hr]
  refine ⟨_,_,bs.set i (some w.heap.size),hrun,.inl ⟨_,rfl,?_⟩⟩;have hfr0:Fr ze w (w.drew.alloc (.cells nw el)):=⟨rfl,rfl,rfl,by simp,λb hb _=>Below.heap_alloc w.drew _ b hb,λ_=>Nat.le_succ _⟩
  have hfr:Fr (λc=>some g=some c) w (w.drew.alloc (.cells nw el)):=hfr0.mono λ_ _ x=>x.elim
  have hupd:=R.upd (y:=.que (s+1) el k ((xs++ys).map enc)) (c:=some g) (c':=some w.heap.size) hR hi hbs (by simp only [Compat];omega) hfr (.inr (.inr ⟨w.heap.size,rfl,yk _,by simp⟩)) (by simp only [Blk.rep]);have hA:∀ b,b<w.heap.size→Own C.A0 (bs.set i (some w.heap.size)) b→Own C.A0 bs b:=λb hb hb'=>by
   rcases hb' with hb' | hb'
   ·exact .inl hb'
   ·rcases uP hb' with h | h
    ·exact .inr h
    ·cases h;omega
  have hib2:=(yc.1 hbs).1;have:=hupd.put (Fr.refl _ _) (some d) (by simpa [zup] using hdn) (v:=.que i (s+1)) (u:=.slice (some ⟨w.heap.size,0,none⟩) (xs.length+ys.length) nc) (by
   simp only [V.rep,yu hli];refine ⟨yk _,λ_=>⟨w.heap.size,0,nc,yu hib2,by simp,by simpa using hge,nw,heap_alloc_new w.drew _,?_,cs++news,D.zug hfr0 (λ_ x=>x.elim) hA _ _ hfl3,λj v hv=>?_⟩⟩
   ·rw [hnw];simp only [Array.size_append,uI,size_zeroCells,hzc,hcl,hnl,← hnk,← Nat.add_mul];have:xs.length+ys.length+(nc - (xs.length+ys.length))=nc:=by omega
    rw [this];omega
   ·rw [hnw,uk,Array.getElem?_append_left (by have:=(yc.1 hv).1;simpa using this)];simpa using hv)
  rw [hd];exact this
variable {κ β:Type} [DecidableEq κ] {ke:κ→Value} {ve:β→D}
end
end
section
variable [ztS] [Drw]
structure Turns (P:Program) (f:FuncId) (t:TypeId) (cs cs':List D) (xs:List D) (y:D):Prop where
 run:∀ (A:Nat→Prop) (w:World) (b:Nat) (vs us:Array Value) (vr:List Value),(∀ c,A c→c<w.heap.size)→zdo (λc=>A c∨c=b) w→¬ A b→b<w.heap.size→w.heap[b]? = some (.cells us t (0,0)) →
  D.reps (λc=>A c∨c=b) w cs us.toList→vs.toList = .pointer (some ⟨b,0,none⟩)::vr→D.reps (λc=>A c∨c=b) w xs vr →
  Calls P f vs w (λe w'=>∃ u us',e = .returned u∧Fr (λc=>c=b) w w'∧w'.heap[b]? = some (.cells us' t (0,0))∧D.reps (λc=>A c∨c=b) w' cs' us'.toList∧D.rep (λc=>A c∨c=b) w' y u)
end
section
def zsB:Obj→Bool
 | .cells _ _ _ | .map _ _ | .mapIter _ _ _ _=>true
 | _=>false
structure Turn (w w':World):Prop where
 size:w'.heap.size=w.heap.size
 at_:∀ (b:Nat) (o:Obj),w.heap[b]? = some o→zsB o=true→w'.heap[b]? = some o
theorem Turn.put {w l o o'} (h:w.heap[l]? = some o) (hn:zsB o=false):Turn w (w.putObj l o'):=
 ⟨by simp,λb q hb hq=>by
  by_cases e:b=l
  ·subst e;rw [h] at hb;cases hb;rw [hn] at hq;cases hq
  ·exact (World.putObj_heap_other e).trans hb⟩
theorem Turn.cell {w w'} (t:Turn w w') {p v} (h:w.cell? p=some v):w'.cell? p=some v:=by
 unfold World.cell? at h ⊢;cases hb:w.heap[p.block]? with
 | none=>simp [hb] at h
 | some o=>
  cases o with
  | cells c e f=>rw [t.at_ _ _ hb rfl];simpa [hb] using h
  | _=>simp [hb] at h
theorem Turn.cells {w w'} (t:Turn w w') {b off u} (h:zdj w b off u):zdj w' b off u:=λj hj=>by
 have:=h j hj;rw [um hj] at this ⊢;exact t.cell this
theorem Turn.row {w w'} (t:Turn w w') {b e k v n xs} (h:w.ownsRow b e k v n xs):w'.ownsRow b e k v n xs:=
 ⟨h.1,h.2.imp id λ⟨g,cap,cur,a1,a2,a3,rest⟩=>⟨g,cap,cur,a1,a2,t.at_ _ _ a3 rfl,rest⟩⟩
mutual
theorem D.zus {A w w'} (t:Turn w w'):∀ (d:D) (v:Value),D.rep A w d v→D.rep A w' d v
 | .val x,v,hv=>by simpa only [D.rep] using hv
 | .agg cs,v,hv=>by
  simp only [D.rep] at hv ⊢;obtain ⟨vs,e,hr⟩:=hv;exact ⟨vs,e,D.zuv t cs _ hr⟩
 | .tup cs,v,hv=>by
  simp only [D.rep] at hv ⊢;obtain ⟨vs,e,hr⟩:=hv;exact ⟨vs,e,D.zuv t cs _ hr⟩
 | .sl k xs,v,hv=>by
  simp only [D.rep] at hv ⊢;obtain ⟨a,cap,e,hcap,hr⟩:=hv;refine ⟨a,cap,e,hcap,hr.imp id λ⟨b,off,ea,hb,hs,hr⟩=>⟨b,off,ea,hb,by rw [t.size];exact hs,D.zw7 t b k xs off hr⟩⟩
 | .ref x,v,hv=>by
  simp only [D.rep] at hv ⊢;obtain ⟨b,off,u,e,hb,hs,hr,hc⟩:=hv;exact ⟨b,off,u,e,hb,by rw [t.size];exact hs,D.zus t x u hr,t.cells hc⟩
 | .fn f fs cs,v,hv=>by
  simp only [D.rep] at hv ⊢;obtain ⟨vs,us,e,h1,h2⟩:=hv;exact ⟨vs,us,e,D.zuv t fs _ h1,D.zuv t cs _ h2⟩
 | .mp ks ds,v,hv=>by
  simp only [D.rep] at hv ⊢;obtain ⟨b,es,clock,e,hb,hs,hh,h1,hwf,h2⟩:=hv;exact ⟨b,es,clock,e,hb,by rw [t.size];exact hs,t.at_ _ _ hh rfl,h1,hwf,D.zuv t ds _ h2⟩
 | .err,v,hv=>by simpa only [D.rep] using hv
 | .osl k xs,v,hv=>by
  simp only [D.rep] at hv ⊢;obtain ⟨a,cap,e,hcap,hn,hr⟩:=hv;refine ⟨a,cap,e,hcap,hn,hr.imp id λ⟨b,off,ea,hb,hs,hr⟩=>⟨b,off,ea,hb,by rw [t.size];exact hs,D.zw7 t b k xs off hr⟩⟩
theorem D.zuv {A w w'} (t:Turn w w'):∀ (ds:List D) (vs:List Value),D.reps A w ds vs→D.reps A w' ds vs
 | [],vs,hv=>by simpa only [D.reps] using hv
 | d::ds,vs,hv=>by
  simp only [D.reps] at hv ⊢;obtain ⟨v,vs',e,h1,h2⟩:=hv;exact ⟨v,vs',e,D.zus t d v h1,D.zuv t ds vs' h2⟩
theorem D.zw7 {A w w'} (t:Turn w w') (b k):∀ (xs:List D) (off:Nat),D.row A w b k xs off→D.row A w' b k xs off
 | [],_,_=>by simp only [D.row]
 | x::xs,off,hv=>by
  simp only [D.row] at hv ⊢;obtain ⟨⟨u,h1,h2,h3⟩,h4⟩:=hv;exact ⟨⟨u,D.zus t x u h1,t.cells h2,h3⟩,D.zw7 t b k xs (off+k) h4⟩
end
theorem D.zvz {A w w'} (t:Turn w w') {k}:∀ (xs:List D) (cs:List Value),D.flat A w k xs cs→D.flat A w' k xs cs
 | [],cs,hv=>by simpa only [D.flat] using hv
 | x::xs,cs,hv=>by
  simp only [D.flat] at hv ⊢;obtain ⟨u,cs',e,hk,h1,h2⟩:=hv;exact ⟨u,cs',e,hk,D.zus t x u h1,D.zvz t xs cs' h2⟩
theorem zxc.turn {A w w' b o cap k ty xs} (q:zxc A w b o cap k ty xs) (t:Turn w w'):zxc A w' b o cap k ty xs:=by
 obtain ⟨h1,cells,h2,h3,cs,h4,h5⟩:=q;exact ⟨h1,cells,t.at_ _ _ h2 rfl,h3,cs,D.zvz t xs cs h4,h5⟩
mutual
theorem V.zus {A w w' bs H} (t:Turn w w'):∀ (x:V) (v:Value),V.rep A w bs H x v→V.rep A w' bs H x v
 | .d x,v,hv=>by simp only [V.rep] at hv ⊢;exact D.zus t x v hv
 | .loc i off,v,hv=>by simpa only [V.rep] using hv
 | .vec i n,v,hv=>by
  simp only [V.rep] at hv ⊢;split at hv
  ·refine ⟨hv.1,λhn=>?_⟩;obtain ⟨cells,h1,h2,h3⟩:=hv.2 hn;exact ⟨cells,t.row h1,h2,D.zvz t _ cells h3⟩
  ·trivial
  ·exact hv.elim
 | .arr i off n,v,hv=>by simpa only [V.rep] using hv
 | .el i n j off,v,hv=>by
  simp only [V.rep] at hv ⊢;split at hv
  ·refine ⟨hv.1,λhn=>?_⟩;obtain ⟨hdr,cells,h1,h2,h3,h4⟩:=hv.2 hn;exact ⟨hdr,cells,t.row h1,h2,D.zvz t _ cells h3,h4⟩
  ·trivial
  ·exact hv.elim
 | .sub i n lo hi,v,hv=>by
  simp only [V.rep] at hv ⊢;split at hv
  ·refine ⟨hv.1,λhn=>?_⟩;obtain ⟨hdr,cells,h1,h2,h3,h4⟩:=hv.2 hn;exact ⟨hdr,cells,t.row h1,h2,D.zvz t _ cells h3,h4⟩
  ·trivial
  ·exact hv.elim
 | .agg cs,v,hv=>by
  simp only [V.rep] at hv ⊢;obtain ⟨vs,e,hr⟩:=hv;exact ⟨vs,e,V.zuv t cs _ hr⟩
 | .tup cs,v,hv=>by
  simp only [V.rep] at hv ⊢;obtain ⟨vs,e,hr⟩:=hv;exact ⟨vs,e,V.zuv t cs _ hr⟩
 | .fn f fs cs,v,hv=>by
  simp only [V.rep] at hv ⊢;obtain ⟨vs,us,e,h1,h2⟩:=hv;exact ⟨vs,us,e,V.zuv t fs _ h1,V.zuv t cs _ h2⟩
 | .mp i,v,hv=>by simpa only [V.rep] using hv
 | .itp i,v,hv=>by simpa only [V.rep] using hv
 | .que i m,v,hv=>by
  simp only [V.rep] at hv ⊢;split at hv
  ·refine ⟨hv.1,λhn=>?_⟩;obtain ⟨b,o,cap,h1,h2,h3⟩:=hv.2 hn;exact ⟨b,o,cap,h1,h2,h3.turn t⟩
  ·trivial
  ·exact hv.elim
 | .qel i m j,v,hv=>by
  simp only [V.rep] at hv ⊢;split at hv
  ·refine ⟨hv.1,λhn=>?_⟩;obtain ⟨b,o,cap,h1,h2,hj,h3⟩:=hv.2 hn;exact ⟨b,o,cap,h1,h2,hj,h3.turn t⟩
  ·trivial
  ·exact hv.elim
 | .junk,_,_=>by simp only [V.rep]
theorem V.zuv {A w w' bs H} (t:Turn w w'):∀ (xs:List V) (vs:List Value),V.reps A w bs H xs vs→V.reps A w' bs H xs vs
 | [],vs,hv=>by simpa only [V.reps] using hv
 | x::xs,vs,hv=>by
  simp only [V.reps] at hv ⊢;obtain ⟨v,vs',e,h1,h2⟩:=hv;exact ⟨v,vs',e,V.zus t x v h1,V.zuv t xs vs' h2⟩
end
theorem Blk.zus {A w w' bs H} (t:Turn w w') (i:Nat) (k:Blk) (hk:k.rep A w bs H i):k.rep A w' bs H i:=by
 cases k with
 | box ty cs=>
  simp only [Blk.rep] at hk ⊢;obtain ⟨b,vs,h1,h2,h3⟩:=hk;exact ⟨b,vs,h1,t.at_ _ _ h2 rfl,V.zuv t cs _ h3⟩
 | arr ty k xs=>
  simp only [Blk.rep] at hk ⊢;obtain ⟨b,vs,h1,h2,h3⟩:=hk;exact ⟨b,vs,h1,t.at_ _ _ h2 rfl,D.zvz t xs _ h3⟩
 | mp bo ks ds clock=>
  simp only [Blk.rep] at hk ⊢;obtain ⟨b,es,h1,h2,h3,h4,h5⟩:=hk;exact ⟨b,es,h1,t.at_ _ _ h2 rfl,h3,h4,D.zuv t ds _ h5⟩
 | it j since seen last=>
  simp only [Blk.rep] at hk ⊢;split at hk
  ·obtain ⟨b,m,h1,h2,h3⟩:=hk;exact ⟨b,m,h1,h2,t.at_ _ _ h3 rfl⟩
  ·trivial
  ·exact hk.elim
 | itd bo ks ds clock since seen last=>
  simp only [Blk.rep] at hk ⊢;obtain ⟨b,mb,es,h1,h2,h3,h4,h5,h6,h7,h8⟩:=hk;exact ⟨b,mb,es,h1,h2,by rw [t.size];exact h3,t.at_ _ _ h4 rfl,h5,h6,D.zuv t ds _ h7,t.at_ _ _ h8 rfl⟩
 | vec ty k xs=>trivial
 | que s ty k xs=>trivial
 | dead=>trivial
theorem R.turn {G G':ztS} [D0:Drw] {C C' bs s a w w'} (h : @R G D0 C bs s a w) (t:Turn w w') (hA:C'.A0=C.A0) (hn:C'.n=C.n) (hgh:C'.gh=C.gh) (hgn:C'.gn=C.gn) (hdf:C'.df=C.df)
  (hfr:Fr C'.own0 C'.w0 w') (hnew:∀ b,some b∈bs→C'.own0 b∨C'.w0.heap.size≤b) (hg : @zdo G' (Own C'.A0 bs) w') : @R G' D0 C' bs s a w':=by
 obtain ⟨A0,own0,w0,n,esc,gh,gn,df⟩:=C;obtain ⟨A1,own1,w1,n1,esc1,gh1,gn1,df1⟩:=C';simp only at hA hn hgh hgn hdf hfr hnew hg;subst hA;subst hn;subst hgh;subst hgn;subst hdf;obtain ⟨⟨o1,o2,o3,o4,_⟩,hlen,hblk,htmp,hd,hsz,_,_,hghs⟩:=h;exact ⟨⟨o1,o2,λb hb=>by rw [t.size];exact o3 b hb,λb hb=>by rw [t.size];exact o4 b hb,hg⟩,hlen,λi k hk=>Blk.zus t i k (hblk i k hk),λu v hv=>⟨(htmp u v hv).1,V.zus t v _ (htmp u v hv).2⟩,hd,hsz,hfr,hnew,λp hp=>⟨(hghs p hp).1,V.zus t _ _ (hghs p hp).2⟩⟩
theorem Pure.widen {G G':ztS} [D0:Drw] (hs:∀ p∈G.gs,p∈G'.gs) {P f xs y} (h : @Pure G D0 P f xs y) : @Pure G' D0 P f xs y:=
 by
 obtain ⟨h⟩:=h;exact ⟨λA w vs hA hG hr=>h A w vs hA (λp hp=>hG p (hs p hp)) hr⟩
variable [ztS] [Drw]
theorem Oper.wpIn_wide {P:Program} {F:Fence} (hF:F=Fence.wide∨∃ l,F=Fence.wide.inRound l) {o:Oper} (ho:∀ c,o.op≠.defer c) {a:Act} {w:World} {K:Act→World→Prop} {Q:Exit→Act→World→Prop} (h:o.wp P a w K Q):o.wpIn F 0 P a w K Q:=by
 have hfn:∀ f,F.fn f:=by rcases hF with rfl | ⟨l,rfl⟩ <;> exact λ_=>trivial
 have hdep:F.depth=none:=by rcases hF with rfl | ⟨l,rfl⟩ <;> rfl
 have hcalls:∀ {f args w R},Calls P f args w R→CallsIn F 0 P f args w R:=by
  rcases hF with rfl | ⟨l,rfl⟩
  ·exact λh=>callsIn_wide.2 h
  ·exact λh=>(callsIn_wide (n:=0)).2 h
 have hrows:∀ {row args w R},Rows P row args w R→RowsIn F 0 P row args w R:=by
  rcases hF with rfl | ⟨l,rfl⟩
  ·exact λh c cs _=>by
    obtain ⟨v,w1,r,s⟩:=h c cs;exact ⟨v,w1,r,stepsIn_wide.2 s⟩
  ·exact λh c cs _=>by
    obtain ⟨v,w1,r,s⟩:=h c cs;exact ⟨v,w1,r,stepsIn_wide.2 s⟩
 refine ⟨λf _=>hfn f,?_⟩;rw [Oper.semAt_eq _ _ _ ho];unfold Oper.wp at h;generalize (execOp a.eval o).run P w=r at *;cases r with
 | ok nx w'=>
  cases nx with
  | value v=>exact h
  | skip=>exact h
  | defer d=>exact h
  | enter f args=>exact ⟨λhd=>(by rw [hdep] at hd;cases hd),hcalls h⟩
  | row row args=>exact ⟨λhd=>(by rw [hdep] at hd;cases hd),hrows h⟩
  | _=>exact h.elim
 | halt x w'=>
  cases x with
  | panic v=>exact h
  | _=>exact h.elim
def zdY (o:Oper):Bool:=match o.op with | .defer _=>false | _=>true
theorem zg2 {o} (h:zdY o=true):∀ c,o.op≠.defer c:=λc e=>by simp [zdY,e] at h
theorem ze8 {P:Program} {F:Fence} (hF:F=Fence.wide∨∃ l,F=Fence.wide.inRound l) {ops:Array Oper} {Q0 Q':Exit→Act→World→Prop} (hno:∀ e a w,Q0 e a w→e = .normal) (hk:∀ a w,Q0 .normal a w→Q' .normal a w) :
  ∀ (l:List Oper) (a:Act) (w:World),(l.all zdY)=true→wpList P ops Q0 l a w→wpListIn F 0 P ops Q' l a w
 | [],a,w,_,h=>hk a w h
 | o::l,a,w,hd,h=>by
  simp only [uj,yd] at hd;simp only [wpList] at h;simp only [wpListIn];have hfn:∀ f,F.fn f:=by rcases hF with rfl | ⟨l,rfl⟩ <;> exact λ_=>trivial
  split <;> rename_i hw
  ·rw [if_pos hw] at h;rcases h with h | ⟨_,a',w',h⟩
   ·have hp:∀ c a w,¬ Q0 (.panic c) a w:=λc a w h=>by have:=hno _ _ _ h;cases this
    have ho:¬ LetsOut Q0:=λ⟨a,w,h⟩=>by have:=hno _ _ _ h;cases this
    refine Oper.wpIn_wide hF (zg2 hd.1) ?_;have ih:∀ a w,wpList P ops Q0 l a w→wpListIn F 0 P ops Q' l a w:=λa w h=>ze8 hF hno hk l a w hd.2 h
    unfold Oper.wp at *;generalize (execOp a.eval o).run P w=r at *;cases r with
    | ok nx w'=>
     cases nx <;> simp only [Oper.upon] at h ⊢
     case value u=>exact ih _ _ h
     case skip=>exact ih _ _ h
     case defer d=>exact ih _ _ h
     case enter f args=>
      refine Calls.mono h λe w'' he=>?_
      cases e with
      | returned u=>exact ih _ _ he
      | panicked c=>exact absurd he (hp _ _ _)
      | outgrown=>exact absurd he ho
     case row row args=>exact Rows.mono h λu w'' he=>ih _ _ he
    | halt x w'=>
     cases x <;> simp only [Oper.upon] at h ⊢
     case panic u=>exact absurd h (hp _ _ _)
   ·exact absurd (hno _ _ _ h) (by simp)
  ·rw [if_neg hw] at h;exact ⟨λf _=>hfn f,ze8 hF hno hk l _ _ hd.2 h⟩
structure OneI (P:Program) (C:Ctx) (ops:Array Oper) (o:Oper) (s s':St):Prop where
 run:∀ bs a w,R C bs s a w→∀ (Q:Exit→Act→World→Prop) (i:Nat) (K:Act→World→Prop),ops[i]? = some o→(∀ a w,(∃ bs,R C bs s' a w)→K a w)→wpOpIn Fence.wide 0 P ops Q i K a w
theorem OneI.of {P:Program} {C:Ctx} {ops:Array Oper} {o:Oper} {s s':St} (hd:zdY o=true) (h:TriL P C ops [o] (zwc s') s):OneI P C ops o s s':=by
 refine ⟨λbs a w hR Q i K hi hK=>?_⟩;have h1:=h.run bs a w hR;unfold wpOpIn;simp only [hi];unfold wpList at h1;split
 ·rename_i hw;rw [if_pos hw] at h1;rcases h1 with h1 | ⟨_,a1,w1,h1⟩
  ·exact Oper.wpIn_wide (.inl rfl) (zg2 hd) (Oper.zw9 hK h1)
  ·rcases h1 with ⟨bs',s1,⟨h,_⟩,hR⟩ | ⟨h,_⟩ <;> cases h
 ·rename_i hw;rw [if_neg hw] at h1;refine ⟨λ_ _=>trivial,?_⟩;rcases h1 with ⟨bs',s1,⟨_,rfl⟩,hR⟩ | ⟨h,_⟩
  ·exact hK _ _ ⟨bs',hR⟩
  ·cases h
structure TriI (P:Program) (C:Ctx) (ops:Array Oper) (fuel:Nat) (listed:Array Bool) (Q:Exit→St→Prop) (s:St):Prop where
 run:∀ bs a w,R C bs s a w→wpAnyIn Fence.wide 0 P .any ops (QR C Q) fuel listed a w
theorem TriI.done {P C ops listed Q s} (hr:Region.ready .any ops listed=[]) (h:Q .normal s):TriI P C ops 0 listed Q s:=
 ⟨λbs _ _ hR=>⟨hr,.inl ⟨bs,s,h,hR⟩⟩⟩
inductive NextI (P:Program) (C:Ctx) (ops:Array Oper) (fuel:Nat) (listed:Array Bool) (Q:Exit→St→Prop) (s:St):List Nat→Prop
 | nil:NextI P C ops fuel listed Q s []
 | cons {i:Nat} {o:Oper} {s':St} {is:List Nat}:ops.toList[i]? = some o→OneI P C ops o s s'→TriI P C ops fuel (listed.setIfInBounds i true) Q s'→NextI P C ops fuel listed Q s is→NextI P C ops fuel listed Q s (i::is)
theorem TriI.step {P C ops fuel listed Q s} (i is) (hr:Region.ready .any ops listed=i::is) (h:NextI P C ops fuel listed Q s (i::is)):TriI P C ops (fuel+1) listed Q s:=by
 refine ⟨λbs a w hR=>⟨λh0=>(by rw [hr] at h0;cases h0),?_⟩⟩;rw [hr];clear hr;generalize i::is=rs at h
 induction h with
 | nil=>intro j hj;cases hj
 | cons h1 h2 h3 _ ih=>
  intro j hj;rcases yI.1 hj with rfl | hj
  ·exact h2.run bs a w hR _ _ _ (by simpa using h1) λa w ⟨bs',hR'⟩=>h3.run bs' a w hR'
  ·exact ih j hj
structure zv6 (C:Ctx) (ops:Array Oper) (o:Oper) (s:St) (b:Bool):Prop where
 run:∀ bs a w,R C bs s a w→Region.wanted o (yielded ops a.tmps)=b
theorem zv6.none {C ops o s} (h:o.guard=none):zv6 C ops o s true:=⟨λ_ _ _ _=>by simp [Region.wanted,h]⟩
theorem zv6.some {C:Ctx} {ops:Array Oper} {o:Oper} {s:St} {j g:Nat} {want b r:Bool} (h:(o.guard,(ops.toList[j]?).bind (·.dst),look g s.T,b==want)=(some (j,want),some g,some (.d (.bool b)),r)):zv6 C ops o s r:=by
 simp only [yv] at h;obtain ⟨h1,h2,h3,rfl⟩:=h;refine ⟨λbs a w hR=>?_⟩;have h4:=hR.tmp g _ h3;have hlt:g<a.tmps.size:=by rw [hR.size];exact h4.1
 have h5:=zr.1 h4.2;have h6:a.tmps[g]? = Option.some (Value.bool b):=by rw [← h5];simp [yN,hlt]
 have h7:(ops[j]?).bind (·.dst)=Option.some g:=by simpa using h2
 simp only [Region.wanted,h1,yielded,h7,ya,h6];cases b <;> cases want <;> rfl
theorem TriI.first {P C ops fuel listed Q s o x v} (i) (hi0:ops.toList[i]? = some o) (hs:(Region.noSelect ops,Region.free .any ops listed i,(Region.ready .any ops listed).contains i)=(true,true,true))
  (ho:(o.op,ev s.T x,zup o.dst C.n)=(.move x,some v,true)) (hw:zv6 C ops o s true) (h2:TriI P C ops fuel (listed.setIfInBounds i true) (zdh Q) (s.put o.dst v)):TriI P C ops (fuel+1) listed (zdh Q) s:=by
 simp only [yv] at hs ho;have hi:ops[i]? = some o:=by simpa using hi0
 refine ⟨λbs a w hR=>?_⟩;have hrun:∀ w',(execOp a.eval o).run P w' = .ok (.value (a.eval x)) w':=λw'=>by simp [execOp,ho.1]
 refine wpAnyIn_take (v:=a.eval x) rfl hi hs.1 hs.2.1 hs.2.2 (λc a w h=>?_) ⟨.inl ⟨hw.run bs a w hR,hrun⟩,λw'=>by simp [Oper.about,ho.1]⟩ ?_
 ·rcases h with ⟨_,_,h,_⟩ | ⟨h,_⟩
  ·exact h.elim
  ·cases h
 ·exact h2.run bs _ _ (hR.put (Fr.refl _ _) o.dst ho.2.2 (hR.ev ho.2.1))
theorem TriI.skip {P C ops fuel listed Q s o} (i) (hi0:ops.toList[i]? = some o) (hs:(Region.noSelect ops,Region.free .any ops listed i,(Region.ready .any ops listed).contains i)=(true,true,true))
  (ho:zup o.dst C.n=true) (hab:(match o.op with | .call _=>false | _=>true)=true) (hw:zv6 C ops o s false) (h2:TriI P C ops fuel (listed.setIfInBounds i true) (zdh Q) (s.put o.dst .junk)):TriI P C ops (fuel+1) listed (zdh Q) s:=by
 simp only [yv] at hs;have hi:ops[i]? = some o:=by simpa using hi0
 refine ⟨λbs a w hR=>?_⟩;refine wpAnyIn_take (v:=Go.undef) rfl hi hs.1 hs.2.1 hs.2.2 (λc a w h=>?_) ⟨.inr ⟨hw.run bs a w hR,rfl⟩,λw'=>?_⟩ ?_
 ·rcases h with ⟨_,_,h,_⟩ | ⟨h,_⟩
  ·exact h.elim
  ·cases h
 ·unfold Oper.about;cases hop:o.op <;> first | rfl | (rw [hop] at hab;cases hab)
 ·exact h2.run bs _ _ (hR.put (Fr.refl _ _) o.dst ho (v:=.junk) (by simp only [V.rep]))
theorem Tri.drawI {P C Q s id l} (n) (hm:P.follows .mixedOrders=true) (hn:l.size=n) (h:TriI P C l n (Array.replicate n false) (zdh Q) s):Tri P C (.region id l true) Q s:=by
 subst hn;refine Tri.mono (Q:=zdh Q) ⟨λbs a w hR=>?_⟩ (λe s hq=>by cases e <;> first | exact hq.elim | exact hq);exact (wpIn_wide (n:=0)).1 (wpIn_region_any hm (h.run bs a _ hR.drew))
end
def zvW (C:Ctx) (l:Nat) (rec:Loop) (T1:List (Nat×V)):Prop:=C.own0 l∧∀ q∈T1,(q.2,rec.tmps.getD q.1 Go.undef)∈C.gh
theorem zpW {T t v} (h:look t T=some v):(t,v)∈T:=by
 induction T with
 | nil=>grind [look]
 | cons p r ih=>
  obtain ⟨u,x⟩:=p;simp only [zbc] at h
  grind
theorem OneI.yield {G1 G2} [D0:Drw] {l} {rec} {P} {C} {ops} {o} {T} {H H'} {x y} {tys} {d} {p N ia ib ic:Nat} {ra rb} {T1}
  (hGs : @ztS.gs G2=(l,.loop rec)::@ztS.gs G1) (hGE:∀ q∈@ztS.gs G1,q.1≠l) (hrec:rec.state = .ready∧rec.pending=none∧rec.params = #[p]∧rec.tmps.size=N) (hasg:rec.assign = .region ia ra.toArray false) (hbd:rec.body = .block ib (.region ic rb.toArray false))
  (hda:(ra.all zdY)=true) (hdb:(rb.all zdY)=true) (hs:zvW C l rec T1) (hTN:(T1.all λq=>Nat.blt q.1 N)=true) (hpN:Nat.blt p N=true) (hp1:(T1.all λq=>q.1 != p)=true)
  (ho:o.op = .call { callee:=.value x,args:=#[y],argTypes:=tys }) (hx:ev T x=some (.d (.fn (.yield l) [] []))) (hy:ev T y=some (.d d)) (hd:zup o.dst C.n=true)
  (hw : @zv6 G2 D0 C ops o ⟨T,H⟩ true) (hu:(T.all λq=>q.2.under H.length)=true) (hgn:Nat.ble C.gn H.length=true)
  (h:∀ (own0) (w) (gh),@TriL G1 D0 P ⟨C.A0,own0,w,N,λ_ _=>False,gh,H.length,[]⟩ ra.toArray ra (λe s1=>e = .normal∧∀ (own0) (w),
   @TriL G1 D0 P ⟨C.A0,own0,w,N,λ_ _=>False,gh,H.length,[]⟩ rb.toArray rb (λe s2=>e = .normal∧s2.H=H') s1) ⟨(p,.d d)::T1,H⟩) :
  @OneI G2 D0 P C ops o ⟨T,H⟩ ((⟨T,H'⟩:St).put o.dst (.d (.bool true))):=by
 obtain ⟨hst,hpe,hps,hsz⟩:=hrec;refine @OneI.mk G2 D0 _ _ _ _ _ _ λbs a w hR Q i K hi hK=>?_
 have hwant:=@zv6.run G2 D0 _ _ _ _ _ hw bs a w hR;have e1:=@R.ev G2 D0 _ _ _ _ _ hR _ _ hx;have e2:=@R.ev G2 D0 _ _ _ _ _ hR _ _ hy;obtain ⟨⟨o1,o2,o3,o4,og⟩,rlen,rblk,rtmp,rdef,rsz,rfr,rnew,rgh⟩:=hR;simp only [V.rep,D.rep,D.reps] at e1;obtain ⟨vs,us,e1,hv0,hu0⟩:=e1;have hv0:vs = #[]:=by simpa using hv0
 have hu0:us = #[]:=by simpa using hu0
 subst hv0 hu0;obtain ⟨hlO,hL⟩:=og (l,.loop rec) (by rw [hGs];simp);simp only at hlO hL;have hlt:l<w.heap.size:=(yn.1 hL).1;unfold wpOpIn;simp only [hi,hwant,if_true];refine ⟨λ_ _=>trivial,?_⟩;obtain ⟨tm1,htm1⟩:∃ tm1,tm1=rec.tmps.setIfInBounds p (a.eval y):=⟨_,rfl⟩
 have hrun:(execOp a.eval o).run P w = .ok (.round l rec.fn tm1 rec.assign rec.body) w:=by
  have hyl:=run_yield (P:=P) (args:=#[a.eval y]) hL (by rw [hps];rfl);rw [hps] at hyl;simp only [execOp,ho,resolve,e1,Deferred.ofValue,Sem.run_bind,Sem.run_pure,Result.andThen_ok,invoke];simpa [htm1] using hyl
 rw [show (o.semAt Fence.wide.round a.eval)=execOp a.eval o from rfl,hrun,Oper.uponIn_round];refine ⟨λh=>by simp [Fence.wide] at h,?_⟩;refine roundIn_of_wpIn trivial ?_;obtain ⟨gh1,hgh1⟩:∃ gh1,gh1=C.gh++vals a T T:=⟨_,rfl⟩
 have hgn:=yf hgn;have hGG:∀ q∈@ztS.gs G1,q∈@ztS.gs G2:=λq hq=>by rw [hGs];exact yX _ hq
 have hR1 : @R G1 D0 ⟨C.A0,λb=>some b∈bs,w,N,λ_ _=>False,gh1,H.length,[]⟩ bs ⟨(p,.d d)::T1,H⟩ { tmps:=tm1,defers:=[] } w:=by
  have hpn:p<rec.tmps.size:=by rw [hsz];simpa using hpN
  refine @R.mk G1 D0 _ _ _ _ _ (@zwe.mk G1 _ _ _ o1 o2 o3 o4 λq hq=>og q (hGG q hq)) rlen rblk (λt v hv=>?_) rfl (by rw [htm1];simpa using hsz) (Fr.refl _ _) (λb hb=>.inl hb) λq hq=>?_
  ·simp only [zbc] at hv;split at hv <;> rename_i ht
   ·cases hv;subst ht;refine ⟨by rw [← hsz];exact hpn,?_⟩;rw [htm1,zc3 _ _ _ _ _ hpn,if_pos rfl];exact e2
   ·have hm:=zpW hv;have h1:=hs.2 _ hm;have h2:=yq.1 hTN _ hm;refine ⟨by simpa using h2,?_⟩;rw [htm1,zc3 _ _ _ _ _ hpn,if_neg ht];exact (rgh _ h1).2
  ·rw [hgh1] at hq;rcases yr.1 hq with hq | hq
   ·exact ⟨V.zu4 hgn _ (rgh q hq).1,(rgh q hq).2⟩
   ·obtain ⟨t,h1,h2⟩:=zd8 hq;exact ⟨zdr hu h1,by rw [h2];exact (rtmp t _ h1).2⟩
 rw [hasg];refine wpIn_region_lit ?_;refine ze8 (F:=Fence.wide.inRound l) (.inr ⟨l,rfl⟩) (Q0:=@QR G1 D0 _ _) ?_ ?_ ra _ _ hda (@TriL.run G1 D0 _ _ _ _ _ _ (h _ _ _) _ _ _ hR1)
 ·rintro e a w (⟨_,_,⟨h,_⟩,_⟩ | ⟨_,h⟩)
  ·exact h
  ·exact h.elim
 rintro a1 w1 (⟨bs1,s1,⟨_,hb⟩,hR1'⟩ | ⟨h,_⟩)
 case inr=>cases h
 simp only [Exit.then];have f1:Fr (λb=>some b∈bs) w w1:=by
  obtain ⟨_,_,_,_,_,_,f,_,_⟩:=hR1';exact f
 have n1:∀ b,some b∈bs1→some b∈bs∨w.heap.size≤b:=by
  obtain ⟨_,_,_,_,_,_,_,f,_⟩:=hR1';exact f
 have hlbs:¬ some l∈bs:=λh=>hlO (.inr h)
 have hL1:w1.heap[l]? = some (.loop rec):=(f1.block l hlt hlbs).trans hL;have hbr:=run_beginRound (P:=P) hL1 hst;refine ⟨_,hbr,?_⟩;obtain ⟨w2,hw2⟩:∃ w2,w2=w1.putObj l (.loop { rec with state:=.busy }):=⟨_,rfl⟩
 rw [← hw2];have t2:Turn w1 w2:=by rw [hw2];exact Turn.put hL1 rfl
 have hs2:w2.heap.size=w1.heap.size:=t2.size;have hlt1:l<w1.heap.size:=(yn.1 hL1).1;have hL2:w2.heap[l]? = some (.loop { rec with state:=.busy }):=by rw [hw2];exact World.putObj_heap_same hlt1
 have hput2:∀ q,q≠l→w2.heap[q]? = w1.heap[q]?:=λq hq=>by rw [hw2];exact World.putObj_heap_other hq
 have hR2 : @R G1 D0 ⟨C.A0,λb=>some b∈bs1,w2,N,λ_ _=>False,gh1,H.length,[]⟩ bs1 s1 a1 w2:=by
  have hg1 : @zdo G1 (Own C.A0 bs1) w1:=by
   obtain ⟨⟨_,_,_,_,g⟩,_⟩:=hR1';exact g
  exact R.turn hR1' t2 rfl rfl rfl rfl rfl (Fr.refl _ _) (λb hb=>.inl hb) λq hq=>⟨(hg1 q hq).1,by rw [hput2 _ (hGE q hq)];exact (hg1 q hq).2⟩
 rw [hbd];refine wpIn_block (wpIn_region_lit ?_);refine ze8 (F:=Fence.wide.inRound l) (.inr ⟨l,rfl⟩) (Q0:=@QR G1 D0 _ _) ?_ ?_ rb _ _ hdb (@TriL.run G1 D0 _ _ _ _ _ _ (hb _ _) _ _ _ hR2)
 ·rintro e a w (⟨_,_,⟨h,_⟩,_⟩ | ⟨_,h⟩)
  ·exact h
  ·exact h.elim
 rintro a2 w3 (⟨bs2,s2,⟨_,hH⟩,hR3⟩ | ⟨h,_⟩)
 case inr=>cases h
 simp only [Exit.inBlock,roundPost];have f3:Fr (λb=>some b∈bs1) w2 w3:=by
  obtain ⟨_,_,_,_,_,_,f,_,_⟩:=hR3;exact f
 have n3:∀ b,some b∈bs2→some b∈bs1∨w2.heap.size≤b:=by
  obtain ⟨_,_,_,_,_,_,_,f,_⟩:=hR3;exact f
 have hlbs1:¬ some l∈bs1:=λh=>(n1 l h).elim hlbs (λh=>by omega)
 have hlbs2:¬ some l∈bs2:=λh=>(n3 l h).elim hlbs1 (λh=>by omega)
 have hL3:w3.heap[l]? = some (.loop { rec with state:=.busy }):=(f3.block l (by omega) hlbs1).trans hL2;have her:=run_endRound (P:=P) none hL3;have hback:({ { rec with state:=LoopState.busy } with state:=if (none:Option Code).isNone then LoopState.ready else LoopState.done,pending:=none }:Loop)=rec:=by
  cases rec;simp only at hst hpe;subst hst hpe;rfl
 rw [hback] at her;refine ⟨_,_,her,hK _ _ ⟨bs2,?_⟩⟩;obtain ⟨w4,hw4⟩:∃ w4,w4=w3.putObj l (.loop rec):=⟨_,rfl⟩
 rw [← hw4];have t4:Turn w3 w4:=by rw [hw4];exact Turn.put hL3 rfl
 have hlt3:l<w3.heap.size:=(yn.1 hL3).1;have hL4:w4.heap[l]? = some (.loop rec):=by rw [hw4];exact World.putObj_heap_same hlt3
 have hput4:∀ q,q≠l→w4.heap[q]? = w3.heap[q]?:=λq hq=>by rw [hw4];exact World.putObj_heap_other hq
 obtain ⟨⟨p1,p2,p3,p4,pg⟩,plen,pblk,ptmp,pdef,psz,pfr,pnew,pgh⟩:=hR3;have hRC : @R G2 D0 C bs2 ⟨T,H'⟩ a w4:=by
  subst hH;refine @R.mk G2 D0 _ _ _ _ _ (@zwe.mk G2 _ _ _ p1 p2 (λb hb=>by rw [t4.size];exact p3 b hb) (λb hb=>by rw [t4.size];exact p4 b hb) λq hq=>?_) plen (λi k hk=>Blk.zus t4 i k (pblk i k hk)) (λt v hv=>?_) rdef rsz ?_ (λb hb=>?_) λq hq=>?_
  ·rw [hGs] at hq;rcases yI.1 hq with rfl | hq
   ·exact ⟨λh=>h.elim (λh=>hlO (.inl h)) hlbs2,hL4⟩
   ·exact ⟨(pg q hq).1,by rw [hput4 _ (hGE q hq)];exact (pg q hq).2⟩
  ·exact ⟨(rtmp t v hv).1,V.zus t4 _ _ (pgh _ (by rw [hgh1];exact List.mem_append_right _ (zdG hv hv))).2⟩
  ·have hfr1:Fr (λb=>some b∈bs∨b=l∨some b∈bs1) w w4:=by
    have g1:Fr (λb=>some b∈bs∨b=l∨some b∈bs1) w w1:=f1.mono λ_ _ h=>.inl h
    have g2:Fr (λb=>some b∈bs∨b=l∨some b∈bs1) w1 w2:=by rw [hw2];exact ⟨rfl,rfl,rfl,by simp,λb _ hn=>World.putObj_heap_other (λe=>hn (.inr (.inl e))),λ_=>yk _⟩
    have g3:Fr (λb=>some b∈bs∨b=l∨some b∈bs1) w2 w3:=f3.mono λ_ _ h=>.inr (.inr h)
    have g4:Fr (λb=>some b∈bs∨b=l∨some b∈bs1) w3 w4:=by rw [hw4];exact ⟨rfl,rfl,rfl,by simp,λb _ hn=>World.putObj_heap_other (λe=>hn (.inr (.inl e))),λ_=>yk _⟩
    exact ((g1.trans g2).trans g3).trans g4
   refine ⟨hfr1.os.trans rfr.os,hfr1.tape.trans rfr.tape,hfr1.output.trans rfr.output,yJ rfr.size hfr1.size,λq hq hno=>?_,λd=>yJ (rfr.drawn d) (hfr1.drawn d)⟩;refine (hfr1.block q (yD hq rfr.size) λe=>?_).trans (rfr.block q hq hno);have hbs:¬ some q∈bs:=λh=>(rnew q h).elim hno (λh=>by omega)
   rcases e with e | e | e
   ·exact hbs e
   ·exact hno (by rw [e];exact hs.1)
   ·exact (n1 q e).elim hbs (λh=>by have:=rfr.size;omega)
  ·have hsz1:=f1.size;have hsz0:=rfr.size;rcases n3 b hb with h1 | h1
   ·rcases n1 b h1 with h1 | h1
    ·exact rnew b h1
    ·exact .inr (by omega)
   ·exact .inr (by omega)
  ·exact ⟨(rgh q hq).1,V.zus t4 _ _ (pgh q (by rw [hgh1];exact List.mem_append_left _ hq)).2⟩
 exact @R.put G2 D0 _ _ _ _ _ _ hRC (Fr.refl _ _) o.dst hd (.d (.bool true)) (.bool true) (zr.2 rfl)
theorem Tri.rangeFunc {G0} [D0:Drw] {P} {fnC} {A} {w0} {n N p b0:Nat} {y} {s0} {T} {H} {g} {x asg body tail} {fi} {fs} {fn} {c} {Q} {K:List Blk→Prop}
  (hx0 : @Tri G0 D0 P ⟨A,ze,w0,n,λ_ _=>False,[],0,[]⟩ x (λe s=>e = .normal∧s=⟨T,H⟩) s0) (hx:ev T g=some (.d (.fn (.func fi) fs []))) (hc:ztT P fi=true) (hf:P.funcs[fi]? = some fn) (hb:fn.body=some c) (hN:fn.ntmps=N) (hres:fn.results = #[])
  (hn:Nat.ble (fs.length+1) N=true) (hu:(T.all λq=>q.2.under H.length)=true)
  (h:∀ (l Dd:Nat) (rec) (own0:Nat→Prop) (w:World) (gh) (G'),l≠Dd→@ztS.gs G'=(l,.loop rec)::(Dd,.deferred (some []))::@ztS.gs G0→(∀ q∈@ztS.gs G0,q.1≠l)→(rec.state = .ready∧rec.pending=none∧rec.params = #[p]∧rec.tmps.size=n) →
   rec.assign=asg→rec.body=body→own0 l→(∀ t v,look t T=some v→(v,rec.tmps.getD t Go.undef)∈gh) →
   @Tri G' D0 P ⟨A,own0,w,N,λ_ _=>False,gh,H.length,[]⟩ c (retV [] λ_ H2=>K H2) ⟨zbQ 0 (fs.map .d++[.d (.fn (.yield l) [] [])]),H⟩)
  (k:∀ (Dd) (H2) (G'),@ztS.gs G'=(Dd,.deferred (some []))::@ztS.gs G0→K H2→@Tri G' D0 P ⟨A,ze,w0,n,λ_ _=>False,[],0,[{ target:=.collected Dd,args:=#[] }]⟩ tail (λe s=>e = .ret∧retQ P fnC.results y e s) ⟨T,H2⟩) :
  @Tri G0 D0 P ⟨A,ze,w0,n,λa' w'=>LeavesInM Fence.wide 0 P fnC a'.tmps (zg3 A w0 y) a'.defers .returning w',[],0,[]⟩ (.seq (.seq x (.block b0 (.rangeFunc g #[p] asg body))) tail) Q s0:=by
 subst hN;have hn:=yf hn;refine @Tri.mk G0 D0 _ _ _ _ _ λbs a w' hR=>?_
 have hR0 : @R G0 D0 ⟨A,ze,w0,n,λ_ _=>False,[],0,[]⟩ bs s0 a w':=by
  obtain ⟨q1,q2,q3,q4,q5,q6,q7,q8,q9⟩:=hR;exact @R.mk G0 D0 _ _ _ _ _ q1 q2 q3 q4 q5 q6 q7 q8 q9
 refine wp_seq (wp_seq (Code.wp_mono ?_ (@Tri.run G0 D0 _ _ _ _ _ hx0 bs a w' hR0)));rintro e a w3 (⟨bs,s,⟨rfl,rfl⟩,hR⟩ | ⟨_,hE⟩)
 case inr=>exact hE.elim
 simp only [Exit.then];clear hR0;have e1:=@R.ev G0 D0 _ _ _ _ _ hR _ _ hx;have hRf:=λ{w'} (f:Fr ze w3 w')=>@R.put G0 D0 _ _ _ _ _ _ hR f none rfl .junk Go.undef (by simp only [V.rep])
 obtain ⟨⟨o1,o2,o3,o4,og⟩,rlen,rblk,rtmp,rdef,rsz,rfr,rnew,rgh⟩:=hR;simp only [V.rep,D.rep] at e1;obtain ⟨vs,us,e1,hvs,hus⟩:=e1;simp only [D.reps] at hus;have hus:us = #[]:=by simpa using hus
 subst hus;refine (wpIn_wide (n:=0)).1 (wpIn_block (wpIn_rangeFunc ?_));intro fnid _;obtain ⟨rec,hrec⟩:∃ rec:Loop,rec = { state:=.ready,pending:=none,fn:=fnid,tmps:=a.tmps,params:=#[p],assign:=asg,body:=body,defers:=w3.heap.size }:=⟨_,rfl⟩
 obtain ⟨l,hl⟩:∃ l,l=w3.heap.size+1:=⟨_,rfl⟩
 obtain ⟨Dd,hDd⟩:∃ Dd,Dd=w3.heap.size:=⟨_,rfl⟩
 obtain ⟨w4,hw4⟩:∃ w4,(w3.alloc (.deferred (some []))).alloc (.loop rec)=w4:=⟨_,rfl⟩
 have hold:∀ q,q<w3.heap.size→w4.heap[q]? = w3.heap[q]?:=λq hq=>by rw [← hw4];exact (Below.heap_alloc _ _ q (by simp;omega)).trans (Below.heap_alloc _ _ q hq)
 have hL4:w4.heap[l]? = some (.loop rec):=by rw [← hw4,hl];have:=World.alloc_heap_new (w3.alloc (.deferred (some []))) (.loop rec);rwa [World.size_alloc] at this
 have hD4:w4.heap[Dd]? = some (.deferred (some [])):=by rw [← hw4,hDd];exact (Below.heap_alloc _ _ _ (by simp)).trans (World.alloc_heap_new w3 _)
 have hs4:w4.heap.size=w3.heap.size+2:=by rw [← hw4];simp
 have hfr4:Fr ze w3 w4:=by
  rw [← hw4];exact (⟨rfl,rfl,rfl,by simp,λb hb _=>Below.heap_alloc _ _ b hb,λ_=>yk _⟩:Fr ze w3 (w3.alloc (.deferred (some [])))).trans ⟨rfl,rfl,rfl,by simp,λb hb _=>Below.heap_alloc _ _ b hb,λ_=>yk _⟩
 refine ⟨l,[{ target:=.collected Dd,args:=#[] }],w4,{ target:=.fn (.func fi) #[],args:=vs++#[.func (.yield l) #[] #[]] },w4,fi,vs++#[.func (.yield l) #[] #[]]++#[],w4,?_,?_,λ_ _=>trivial,?_,λh=>by simp [Fence.wide] at h,?_⟩
 ·rw [← hw4,hl,hDd,hrec];exact run_enterLoop_outer _ _ _ _ _
 ·have ek:∀ v,a.eval (.const v)=v:=λ_=>rfl
  simp [resolve,e1,Deferred.ofValue,ek]
 ·simp only [invoke];exact zaW hc _ w4
 have hR4:=hRf hfr4;obtain ⟨⟨q1,q2,q3,q4,qg⟩,qlen,qblk,qtmp,qdef,qsz,qfr,qnew,_⟩:=hR4;have hlA:¬ Own A bs l:=λh=>by
  rcases h with h | h
  ·have:=o4 l h;omega
  ·have:=o3 l h;omega
 have hDA:¬ Own A bs Dd:=λh=>by
  rcases h with h | h
  ·have:=o4 Dd h;omega
  ·have:=o3 Dd h;omega
 have hgl:∀ q∈@ztS.gs G0,q.1<w3.heap.size:=λq hq=>(yn.1 (og q hq).2).1
 obtain ⟨G',hG'⟩:∃ G':ztS,@ztS.gs G'=(l,.loop rec)::(Dd,.deferred (some []))::@ztS.gs G0:=⟨⟨_⟩,rfl⟩
 obtain ⟨GD,hGD⟩:∃ G':ztS,@ztS.gs G'=(Dd,.deferred (some []))::@ztS.gs G0:=⟨⟨_⟩,rfl⟩
 have hargs:(vs++#[Value.func (.yield l) #[] #[]]++#[]:Array Value)=vs++#[Value.func (.yield l) #[] #[]]:=by simp
 rw [hargs];have hvl:=D.zub hvs;simp only [yt] at hvl;have hreps:V.reps (Own A bs) w4 bs H (fs.map .d++[.d (.fn (.yield l) [] [])]) (vs++#[Value.func (.yield l) #[] #[]]:Array Value).toList:=by
  simp only [Array.toList_append];refine V.zuq ?_ ?_
  ·have:=D.zw5 hfr4 hvs;have key:∀ (ds:List D) (vs:List Value),D.reps (Own A bs) w4 ds vs→V.reps (Own A bs) w4 bs H (ds.map .d) vs:=by
    intro ds
    induction ds with
    | nil=>intro vs h;simpa only [D.reps,List.map_nil,V.reps] using h
    | cons d ds ih=>
     intro vs h;simp only [D.reps] at h;obtain ⟨v,vs',rfl,h1,h2⟩:=h;simp only [yV,V.reps,V.rep];exact ⟨v,vs',rfl,h1,ih _ h2⟩
   exact key _ _ this
  ·simp [V.reps,V.rep,D.rep,D.reps]
 have hRi : @R G' D0 ⟨A,λb=>some b∈bs∨b=l,w4,fn.ntmps,λ_ _=>False,vals a T T,H.length,[]⟩ bs ⟨zbQ 0 (fs.map .d++[.d (.fn (.yield l) [] [])]),H⟩ { tmps:=(vs++#[Value.func (.yield l) #[] #[]])++Array.replicate (fn.ntmps - (vs++#[Value.func (.yield l) #[] #[]]).size) undef,defers:=[] } w4:=by
  have hsz:((vs++#[Value.func (.yield l) #[] #[]])++Array.replicate (fn.ntmps - (vs++#[Value.func (.yield l) #[] #[]]).size) undef).size=fn.ntmps:=by simp;omega
  refine @R.mk G' D0 _ _ _ _ _ (@zwe.mk G' _ _ _ q1 q2 q3 q4 λq hq=>?_) qlen qblk (λt v hv=>?_) rfl hsz (Fr.refl _ _) (λb hb=>.inl (.inl hb)) λq hq=>?_
  ·rw [hG'] at hq;rcases yI.1 hq with rfl | hq
   ·exact ⟨hlA,hL4⟩
   rcases yI.1 hq with rfl | hq
   ·exact ⟨hDA,hD4⟩
   ·exact qg q hq
  ·have:=zcR _ 0 _ ((vs++#[Value.func (.yield l) #[] #[]])++Array.replicate (fn.ntmps - (vs++#[Value.func (.yield l) #[] #[]]).size) undef) hreps
    (λj hj=>by
     have hj':j<(vs++#[Value.func (.yield l) #[] #[]]).size:=by simpa using hj
     rw [uk,yN,Array.getElem?_append_left hj',List.getD,y0])
    (by rw [hsz];simp;omega) t v hv
   rw [hsz] at this;exact this
  ·obtain ⟨t,h1,h2⟩:=zd8 hq;exact ⟨zdr hu h1,by rw [h2];exact (qtmp t _ h1).2⟩
 have htri:=h l Dd rec (λb=>some b∈bs∨b=l) w4 (vals a T T) G' (by omega) hG' (λq hq=>by have:=hgl q hq;omega) (by rw [hrec];exact ⟨rfl,rfl,rfl,rsz⟩) (by rw [hrec]) (by rw [hrec]) (.inr rfl) (λt v hv=>by rw [hrec];exact zdG hv hv);refine callsIn_wide.2 (calls_of_wp hf hb (Code.wp_mono ?_ (@Tri.run G' D0 _ _ _ _ _ htri bs _ w4 hRi)));rintro e a' w5 (⟨bs',s',⟨he,ys,hys,hk⟩,hR5⟩ | ⟨_,hE⟩)
 case inr=>exact hE.elim
 obtain ⟨⟨p1,p2,p3,p4,pg⟩,plen,pblk,ptmp,pdef,psz,pfr,pnew,pgh⟩:=hR5;have hrun:(results fn a'.tmps).run P w5 = .ok (.tuple #[]) w5:=by
  rw [zb1,hres];simp [Sem.run_bind,Sem.run_pure]
 have hfin:rangePost Fence.wide 0 P l (Exit.inBlock b0 (Exit.then (tail.wp P (@QR G0 D0 ⟨A,ze,w0,n,λa' w'=>LeavesInM Fence.wide 0 P fnC a'.tmps (zg3 A w0 y) a'.defers .returning w',[],0,[]⟩ Q)) (@QR G0 D0 ⟨A,ze,w0,n,λa' w'=>LeavesInM Fence.wide 0 P fnC a'.tmps (zg3 A w0 y) a'.defers .returning w',[],0,[]⟩ Q))) { a with defers:=[{ target:=.collected Dd,args:=#[] }]++a.defers } (.returned (.tuple #[])) w5:=by
  have hL5:=(pg (l,.loop rec) (by rw [hG'];simp)).2;have hD5:=(pg (Dd,.deferred (some [])) (by rw [hG'];simp)).2;simp only at hL5 hD5;simp only [rangePost];refine ⟨none,w5.putObj l (.loop { rec with state:=.exhausted }),by have:=run_endLoop (P:=P) hL5 (by rw [hrec];simp);rw [this,hrec],?_⟩;simp only [Exit.inBlock,Exit.then];obtain ⟨w6,hw6⟩:∃ w6,w6=w5.putObj l (.loop { rec with state:=.exhausted }):=⟨_,rfl⟩
  rw [← hw6];have t6:Turn w5 w6:=by rw [hw6];exact Turn.put hL5 rfl
  have hput6:∀ q,q≠l→w6.heap[q]? = w5.heap[q]?:=λq hq=>by rw [hw6];exact World.putObj_heap_other hq
  have hlbs':∀ b,some b∈bs'→(some b∈bs∨b=l)∨w4.heap.size≤b:=pnew;have hR6 : @R GD D0 ⟨A,ze,w0,n,λ_ _=>False,[],0,[{ target:=.collected Dd,args:=#[] }]⟩ bs' ⟨T,s'.H⟩ { a with defers:=[{ target:=.collected Dd,args:=#[] }]++a.defers } w6:=by
   refine @R.mk GD D0 _ _ _ _ _ (@zwe.mk GD _ _ _ p1 p2 (λb hb=>by rw [t6.size];exact p3 b hb) (λb hb=>by rw [t6.size];exact p4 b hb) λq hq=>?_) plen (λi k hk=>Blk.zus t6 i k (pblk i k hk)) (λt v hv=>?_) (by simp only;rw [rdef];rfl) rsz ?_ (λb hb=>?_) (λq hq=>(by cases hq))
   ·rw [hGD] at hq;have hq':q∈@ztS.gs G':=by rw [hG'];exact yX _ hq
    have hne:q.1≠l:=by
     rcases yI.1 hq with rfl | hq
     ·simp only;omega
     ·have:=hgl q hq;omega
    exact ⟨(pg q hq').1,by rw [hput6 _ hne];exact (pg q hq').2⟩
   ·exact ⟨(rtmp t v hv).1,V.zus t6 _ _ (pgh _ (zdG hv hv)).2⟩
   ·have f5:Fr (λb=>some b∈bs∨b=l) w4 w5:=pfr;have f6:Fr (λb=>some b∈bs∨b=l) w5 w6:=by rw [hw6];exact ⟨rfl,rfl,rfl,by simp,λb _ hn=>World.putObj_heap_other (λe=>hn (.inr e)),λ_=>yk _⟩
    have f46:=(hfr4.mono (W':=λb=>some b∈bs∨b=l) λ_ _ x=>x.elim).trans (f5.trans f6);have rfr':Fr ze w0 w3:=rfr;refine ⟨f46.os.trans rfr'.os,f46.tape.trans rfr'.tape,f46.output.trans rfr'.output,yJ rfr'.size f46.size,λq hq hno=>?_,λd=>yJ (rfr'.drawn d) (f46.drawn d)⟩;have:=rfr'.size;have hq:q<w0.heap.size:=hq;refine (f46.block q (by omega) λe=>?_).trans (rfr'.block q hq hno);rcases e with e | e
    ·have h3:ze q∨w0.heap.size≤q:=rnew q e;exact h3.elim (λx=>x) (λh=>by omega)
    ·omega
   ·have hz:w0.heap.size≤w3.heap.size:=rfr.size;rcases hlbs' b hb with (h1 | h1) | h1
    ·exact rnew b h1
    ·exact .inr (by simp only;omega)
    ·exact .inr (by simp only;omega)
  have hR6' : @R GD D0 ⟨A,ze,w0,n,λ_ _=>False,[],0,[{ target:=.collected Dd,args:=#[] }]⟩ bs' ⟨T,s'.H⟩ { a with defers:=[{ target:=.collected Dd,args:=#[] }]++a.defers } w6:=hR6;refine Code.wp_mono ?_ (@Tri.run GD D0 _ _ _ _ _ (k Dd s'.H GD hGD hk) _ _ _ hR6');rintro e a7 w7 (⟨bs7,s7,⟨rfl,he7,ds,hy7,hres7⟩,hR7⟩ | ⟨_,hE⟩)
  case inr=>exact hE.elim
  refine .inr ⟨rfl,?_⟩;have hg7 : @zdo GD (Own A bs7) w7:=by
   obtain ⟨⟨_,_,_,_,g⟩,_⟩:=hR7;exact g
  have hdf7:a7.defers=[{ target:=.collected Dd,args:=#[] }]:=by
   obtain ⟨_,_,_,_,d,_⟩:=hR7;exact d
  have hfr7:Fr ze w0 w7:=by
   obtain ⟨_,_,_,_,_,_,f,_,_⟩:=hR7;exact f
  have hnew7:∀ b,some b∈bs7→ze b∨w0.heap.size≤b:=by
   obtain ⟨_,_,_,_,_,_,_,f,_⟩:=hR7;exact f
  have hD7:=(hg7 (Dd,.deferred (some [])) (by rw [hGD];simp)).2;simp only at hD7;obtain ⟨w8,hw8⟩:∃ w8,w8=w7.putObj Dd (.deferred none):=⟨_,rfl⟩
  have hput8:∀ q,q≠Dd→w8.heap[q]? = w7.heap[q]?:=λq hq=>by rw [hw8];exact World.putObj_heap_other hq
  have hfr8:Fr ze w0 w8:=by
   have hz:w0.heap.size≤w3.heap.size:=rfr.size;refine ⟨by rw [hw8];exact hfr7.os,by rw [hw8];exact hfr7.tape,by rw [hw8];exact hfr7.output,by rw [hw8];simpa using hfr7.size,λq hq hno=>(hput8 q (by omega)).trans (hfr7.block q hq hno),by rw [hw8];exact hfr7.drawn⟩
  have hR8:=R.turn (G':=G0) (C':=⟨A,ze,w0,n,λ_ _=>False,[],0,[{ target:=.collected Dd,args:=#[] }]⟩) hR7 (w':=w8) (by rw [hw8];exact Turn.put hD7 rfl) rfl rfl rfl rfl rfl hfr8 hnew7 λq hq=>by
   have hne:q.1≠Dd:=by have:=hgl q hq;omega
   have:=hg7 q (by rw [hGD];exact yX _ hq);exact ⟨this.1,by rw [hput8 _ hne];exact this.2⟩
  obtain ⟨u,hu1,hu2⟩:=@zrD G0 D0 _ _ _ _ _ _ _ _ _ hy7 hres7 hR8;show LeavesInM Fence.wide 0 P fnC a7.tmps (zg3 A w0 y) a7.defers .returning w7;rw [hdf7];exact ⟨by simp,.inl ⟨Dd,w8,rfl,by rw [hw8];exact run_takeDeferred hD7,u,hu1,u,rfl,hfr8,hu2⟩⟩
 rcases he with rfl | rfl
 ·exact ⟨pdef,_,hrun,hfin⟩
 ·exact ⟨pdef,_,hrun,hfin⟩
section
variable [ztS] [Drw]
structure zxb (P:Program) (f:FuncId) (xs:List D) (t:TypeId) (k:Nat) (Y:List D→Prop):Prop where
 run:∀ (A:Nat→Prop) (w:World) (vs:Array Value),(∀ b,A b→b<w.heap.size)→zdo A w→D.reps A w xs vs.toList →
  Calls P f vs w (λe w'=>∃ u l cells,e = .returned u∧Y l∧Fr ze w w'∧w'.ownsRow w.heap.size t k u l.length cells∧D.flat (λb=>A b∨u.ownBlock=some b) w' k l cells)
def zr2 (A:Nat→Prop) (w:World) (t:TypeId) (k:Nat) (Y:List D→Prop) (e:Ending) (w':World):Prop:=
 ∃ u l cells,e = .returned u∧Y l∧Fr ze w w'∧w'.ownsRow w.heap.size t k u l.length cells∧D.flat (λb=>A b∨u.ownBlock=some b) w' k l cells
def zsz (tt:Tmp) (t:TypeId) (k:Nat) (Y:List D→Prop) (s:St):Prop:=∃ i l,look tt s.T=some (.vec i l.length)∧s.H[i]? = some (.vec t k l)∧Y l
theorem zq8 {P:Program} {fn:Func} {tt:Tmp} {A:Nat→Prop} {w:World} {n:Nat} {esc gh gn df t k Y bs s a w'} (hrs:fn.results = #[.tmp tt]) (hq:zsz tt t k Y s) (hR:R ⟨A,ze,w,n,esc,gh,gn,df⟩ bs s a w') :
  ∃ u,(results fn a.tmps).run P w' = .ok u w'∧zr2 A w t k Y (.returned u) w':=by
 obtain ⟨i,l,h1,h2,hY⟩:=hq;have hv:=(hR.tmp tt _ h1).2;simp only [V.rep,h2] at hv;obtain ⟨cells,g1,g2,g3⟩:=hv.2 trivial;refine ⟨a.tmps.getD tt undef,?_,⟨_,l,cells,rfl,hY,hR.fr,⟨g1.1,?_⟩,D.zug (Fr.refl ze w') (λ_ x=>x.elim) (λb _ hb=>?_) _ _ g3⟩⟩
 ·rw [zb1,hrs];simp [zel]
 ·rcases g1.2 with h | ⟨g,cap,cur,h4,_,h5⟩
  ·exact .inl h
  ·refine .inr ⟨g,cap,cur,h4,?_,h5⟩;have hg:bs[i]? = some (some g):=by rw [g2,h4];rfl
   exact (hR.new g (yx hg)).elim (λx=>x.elim) id
 ·rcases hb with hb | hb
  ·exact .inl hb
  ·exact .inr (by rw [hb] at g2;exact yx g2)
theorem zpb {A:Nat→Prop} {w:World} {fn:Func} {xs:List D} {vs:Array Value} {esc:Act→World→Prop} (hn:xs.length≤fn.ntmps) (hA:∀ b,A b→b<w.heap.size) (hG:zdo A w) (hr:D.reps A w xs vs.toList) :
  R ⟨A,ze,w,fn.ntmps,esc,[],0,[]⟩ [] ⟨params 0 xs,[]⟩ { tmps:=vs++Array.replicate (fn.ntmps - vs.size) undef,defers:=[] } w:=by
 have hlen:=D.zub hr;have hsz:(vs++Array.replicate (fn.ntmps - vs.size) undef).size=fn.ntmps:=by
  simp only [yt] at hlen;simp;omega
 refine ⟨⟨by simp,by simp,by simp,hA,hG.fr (Fr.refl ze w) (λ_ x=>x.elim) (λb _ hb=>hb.elim id (λh=>by simp at h))⟩,rfl,by simp,λt v hv=>?_,rfl,hsz,Fr.refl _ _,by simp,λp hp=>(by cases hp)⟩;have:=zdZ (A:=Own A []) (w:=w) (bs:=[]) (H:=[]) xs 0 vs.toList (vs++Array.replicate (fn.ntmps - vs.size) undef)
  (D.zut (Fr.refl ze w) (λ_ x=>x.elim) (λb _ hb=>hb.elim id (λh=>by simp at h)) xs _ hr)
  (λj hj=>by
   have hj':j<vs.size:=by simpa using hj
   simp [yN,Array.getElem?_append,hj',List.getD])
  (by rw [hsz];simp only [yt] at hlen;simp;omega) t v hv
 rw [hsz] at this;exact this
theorem zxb.zwB {P:Program} {f:FuncId} {fn:Func} {c:Code} {xs:List D} {tt:Tmp} {t k Y} (hf:P.funcs[f]? = some fn) (hb:fn.body=some c) (hrs:fn.results = #[.tmp tt]) (hn:xs.length≤fn.ntmps)
  (h:∀ A w,Tri P ⟨A,ze,w,fn.ntmps,λ_ _=>False,[],0,[]⟩ c (λe s=>e = .ret∧zsz tt t k Y s) ⟨params 0 xs,[]⟩):zxb P f xs t k Y:=by
 refine ⟨λA w vs hA hG hr=>?_⟩;refine calls_of_wp hf hb (Code.wp_mono ?_ ((h A w).run [] _ w (zpb hn hA hG hr)));rintro e a' w' (⟨bs',s',⟨rfl,hq⟩,hR⟩ | ⟨_,hE⟩)
 case inr=>exact hE.elim
 obtain ⟨u,hu1,hu2⟩:=zq8 (P:=P) hrs hq hR;exact ⟨hR.defers,u,hu1,hu2⟩
variable {P:Program} {C:Ctx} {ops:Array Oper} {o:Oper} {rest:List Oper} {Q:Exit→St→Prop} {T:List (Nat×V)} {H:List Blk} {e:Operand→Option V}
theorem TriL.zx2 {f args tys xs t k Y d} (hg:o.guard=none) (ho:o.op = .call { callee:=.value (.func f),args:=args,argTypes:=tys }) (hd:o.dst=some d) (hdn:Nat.blt d C.n=true) (hc:ztT P f=true) (ha:evs (ev T) args.toList=some xs) (hp:zxb P f xs t k Y)
  (kk:∀ l,Y l→TriL P C ops rest Q ⟨(d,.vec H.length l.length)::T,H++[.vec t k l]⟩):TriL P C ops (o::rest) Q ⟨T,H⟩:=by
 refine ⟨λbs a w hR=>wpList_plain hg λK hK=>?_⟩;have hk:∀ k,a.eval (.func k) = .func (.func k) #[] #[]:=λ_=>rfl
 have hrun:(execOp a.eval o).run P w = .ok (.enter f (args.map a.eval)) w:=by
  simp only [execOp,ho,resolve,hk,Deferred.ofValue,Sem.run_bind,Sem.run_pure,Result.andThen_ok,invoke];simpa using zaW hc (args.map a.eval) w
 have hreps:D.reps (Own C.A0 bs) w xs (args.map a.eval).toList:=by
  have:=zff (A:=Own C.A0 bs) (w:=w) (bs:=bs) (H:=H) (f:=a.eval) ha (λx _ y hy=>hR.ev hy);simpa using this
 have hAlt:∀ b,Own C.A0 bs b→b<w.heap.size:=λb hb=>hb.elim (hR.own.zt4 b) (hR.own.lt b)
 have hlen:=hR.len;simp only at hlen;refine Oper.zu5 (K:=λu w'=>∃ l cells,Y l∧Fr ze w w'∧w'.ownsRow w.heap.size t k u l.length cells∧D.flat (λb=>Own C.A0 bs b∨u.ownBlock=some b) w' k l cells) ?_ λu w' ⟨l,cells,hY,hf,hown,hfl⟩=>?_
 ·rw [hrun];refine (hp.run (Own C.A0 bs) w (args.map a.eval) hAlt hR.own.glob hreps).mono ?_;rintro e' w' ⟨u,l,cells,he,h1,h2,h3,h4⟩;exact ⟨u,he,l,cells,h1,h2,h3,h4⟩
 ·have hbl:∃ bs',R C bs' ⟨(d,.vec H.length l.length)::T,H++[.vec t k l]⟩ (a.put o.dst u) w':=by
   rcases hown.2 with ⟨hnil,h0⟩ | ⟨g,cap,cur,hu,hbase,hheap,hrest⟩
   ·have h1:R C (bs++[none]) ⟨T,H++[.vec t k l]⟩ a w':=by
     have:=hR.put hf none rfl (v:=.junk) (u:=undef) (by simp only [V.rep]);exact R.zwu (k:=.vec t k l) this λ_ _ _=>by simp only [Blk.rep]
    refine ⟨bs++[none],?_⟩;have:=h1.put (Fr.refl _ _) (some d) (by simpa [zup] using hdn) (v:=.vec H.length l.length) (u:=u) (by
     simp only [V.rep];rw [yF (yk _)];simp only [uu,yP];refine ⟨yk _,λ_=>⟨cells,⟨hown.1,.inl ⟨hnil,h0⟩⟩,by rw [← hlen,hnil];simp [Value.ownBlock],D.zug (Fr.refl ze w') (λ_ x=>x.elim) (λb _ hb=>.inl ?_) _ _ hfl⟩⟩;rcases hb with hb | hb
     ·exact .inl hb
     ·rcases yr.1 hb with hb | hb
      ·exact .inr hb
      ·simp at hb)
    rw [hd];exact this
   ·have hgA:¬ C.A0 g:=λh=>absurd (hR.own.zt4 g h) (by omega)
    have hgl:g<w'.heap.size:=(yn.1 hheap).1;have h1:R { C with A0:=λc=>C.A0 c∨c=g } bs ⟨T,H⟩ a w':=
     hR.zuO (A:=λc=>C.A0 c∨c=g) hf (λb hb hb'=>hb'.elim id (λe=>by omega)) (λb hb=>by
      rcases hb with hb | rfl
      ·exact yD (hR.own.zt4 b hb) hf.size
      ·exact hgl)
    have h2:=R.zwU (C:=C) t k l h1 hheap hgA (yJ hR.fr.size hbase);refine ⟨bs++[some g],?_⟩;have:=h2.put (Fr.refl _ _) (some d) (by simpa [zup] using hdn) (v:=.vec H.length l.length) (u:=u) (by
     simp only [V.rep];rw [yF (yk _)];simp only [uu,yP];refine ⟨yk _,λ_=>⟨cells,⟨hown.1,.inr ⟨g,cap,cur,hu,yp _,hheap,hrest⟩⟩,by rw [← hlen,hu];simp [Value.ownBlock],D.zug (Fr.refl ze w') (λ_ x=>x.elim) (λb _ hb=>?_) _ _ hfl⟩⟩;rcases hb with hb | hb
     ·exact .inl (.inl hb)
     ·rcases yr.1 hb with hb | hb
      ·exact .inl (.inr hb)
      ·simp only [yG,yj] at hb;subst hb;exact .inr (by rw [hu];rfl))
    rw [hd];exact this
  obtain ⟨bs',hR'⟩:=hbl;exact hK _ _ ((kk l hY).run bs' _ _ hR')
variable {κ β:Type} {ke:κ→Value} {ve:β→D}
end
section
variable [ztS] [Drw]
theorem OpV.zw3 {P o e H t x d v fs} (ho:o.op = .makeInterface t x) (ht:P.underlying t=some (.struct fs)) (hx:e x=some (.d d)) (hv:IsV d v):OpV P o e H (.d (.val (.iface t v))):=by
 refine ⟨λA bs w g hm hf hc hk=>?_⟩;have h1:=hf x (by simp [ho,Op.operands]) _ hx;simp only [V.rep] at h1;have h2:=(hv.eq _ _ _).1 h1;have:(execOp g o).run P w = .ok (.value (.iface t v)) w:=by
  simp only [execOp,ho,h2,Instr.makeInterface,Sem.run_bind,run_underlying ht,Result.andThen_ok,Sem.run_pure]
 rw [this];exact ⟨Fr.refl _ _,by simp only [V.rep,D.rep]⟩
theorem TriL.panic {P C ops o rest Q s x t v} (hg:o.guard=none) (ho:o.op = .panic x) (hx:ev s.T x=some (.d (.val (.iface t v)))) (h:Q (.panic [{ v:=.iface t v,recovered:=false }]) s):TriL P C ops (o::rest) Q s:=by
 refine ⟨λbs a w hR=>wpList_plain hg λK hK=>?_⟩;have h1:=hR.ev hx;simp only [V.rep,D.rep] at h1;unfold Oper.wp;have:(execOp a.eval o).run P w = .halt (.panic (.iface t v)) w:=by
  simp only [execOp,ho];rw [h1];rfl
 rw [this];exact .inl ⟨bs,s,h,hR⟩
structure zvG (P:Program) (f:FuncId) (pv:Value) (t:TypeId) (cs:List D) (vt:TypeId) (vk:Nat) (xs:List D) (zs:List D) (o:Option (D×List D)):Prop where
 run:∀ (A:Nat→Prop) (w:World) (b:Nat) (hdr:Value) (vs us:Array Value) (cells vr:List Value),(∀ c,A c→c<w.heap.size)→zdo (λc=>A c∨c=b∨hdr.ownBlock=some c) w→¬ A b→b<w.heap.size →
  (∀ c,hdr.ownBlock=some c→¬ A c∧c≠b∧c<w.heap.size)→w.heap[b]? = some (.cells us t (0,0))→D.reps (λc=>A c∨c=b∨hdr.ownBlock=some c) w cs us.toList →
  w.ownsRow 0 vt vk hdr xs.length cells→D.flat (λc=>A c∨c=b∨hdr.ownBlock=some c) w vk xs cells →
  vs.toList = .pointer (some ⟨b,0,none⟩)::hdr::vr→D.reps (λc=>A c∨c=b∨hdr.ownBlock=some c) w zs vr →
  Calls P f vs w (λe w'=>∃ us' cs',Fr (λc=>c=b∨hdr.ownBlock=some c) w w'∧w'.heap[b]? = some (.cells us' t (0,0))∧D.reps (λc=>A c∨c=b∨hdr.ownBlock=some c) w' cs' us'.toList ∧
   ((∃ y u,o=some (y,cs')∧e = .returned u∧D.rep (λc=>A c∨c=b∨hdr.ownBlock=some c) w' y u)∨(o=none∧e = .panicked [{ v:=pv,recovered:=false }])))
def turn2Q (tt:Tmp) (ty:TypeId) (P:Program) (pv:Value) (t:TypeId) (m:Nat) (o:Option (D×List D)) (e:Exit) (s:St):Prop:=
 (∃ i T ds cs',o=some (.agg ds,cs')∧e = .ret∧look tt s.T=some (.loc i 0)∧s.H[i]? = some (.box T (List.map V.d ds))∧zZ P ty=some (some ds.length)∧s.H[0]? = some (.box t (List.map V.d cs'))∧∃ t1 k1 xs',s.H[1]? = some (.vec t1 k1 xs')∧xs'.length=m) ∨
 (∃ cs',o=none∧e = .panic [{ v:=pv,recovered:=false }]∧s.H[0]? = some (.box t (List.map V.d cs'))∧∃ t1 k1 xs',s.H[1]? = some (.vec t1 k1 xs')∧xs'.length=m)
theorem zvG.zwB {P:Program} {f:FuncId} {fn:Func} {c:Code} {pv t cs vt vk xs zs o} {tt:Tmp} {ty:TypeId} (hf:P.funcs[f]? = some fn) (hb:fn.body=some c) (hrs:fn.results = #[.cell tt ty]) (hn:zs.length+2≤fn.ntmps)
  (h:∀ (A:Nat→Prop) (b:Nat) (hdr:Value) (w:World),Tri P ⟨A,λc=>c=b∨hdr.ownBlock=some c,w,fn.ntmps,λ_ _=>False,[(.loc 0 0,.pointer (some ⟨b,0,none⟩)),(.vec 1 xs.length,hdr)],2,[]⟩ c (turn2Q tt ty P pv t xs.length o) ⟨(0,.loc 0 0)::(1,.vec 1 xs.length)::params 2 zs,[.box t (cs.map V.d),.vec vt vk xs]⟩):zvG P f pv t cs vt vk xs zs o:=by
 refine ⟨λA w b hdr vs us cells vr hA hG hAb hbw hq hh hcs hrow hflat hvs hr=>?_⟩;have hlen:=D.zub hr;have hvl:vs.size=zs.length+2:=by
  have:=congrArg List.length hvs;simp at this;omega
 have hown:∀ c,Own A [some b,hdr.ownBlock] c↔(A c∨c=b∨hdr.ownBlock=some c):=λc=>by
  simp only [Own,yI,yj,List.not_mem_nil,or_false];exact ⟨λh=>h.elim .inl λh=>h.elim (λh=>.inr (.inl h)) λh=>.inr (.inr h.symm),λh=>h.elim .inl λh=>h.elim (λh=>.inr (.inl h)) λh=>.inr (.inr h.symm)⟩
 have hownE:Own A [some b,hdr.ownBlock]=λc=>A c∨c=b∨hdr.ownBlock=some c:=funext λc=>propext (hown c)
 have hsz:(vs++Array.replicate (fn.ntmps - vs.size) undef).size=fn.ntmps:=by simp;omega
 have hget:∀ j,j<vs.size→(vs++Array.replicate (fn.ntmps - vs.size) undef).getD j undef=vs.toList.getD j undef:=λj hj=>by
  simp [yN,Array.getElem?_append_left hj,List.getD]
 have hR:R ⟨A,λc=>c=b∨hdr.ownBlock=some c,w,fn.ntmps,λ_ _=>False,[(.loc 0 0,.pointer (some ⟨b,0,none⟩)),(.vec 1 xs.length,hdr)],2,[]⟩ [some b,hdr.ownBlock] ⟨(0,.loc 0 0)::(1,.vec 1 xs.length)::params 2 zs,[.box t (cs.map V.d),.vec vt vk xs]⟩ { tmps:=vs++Array.replicate (fn.ntmps - vs.size) undef,defers:=[] } w:=by
  have hvec:V.rep (Own A [some b,hdr.ownBlock]) w [some b,hdr.ownBlock] [.box t (cs.map V.d),.vec vt vk xs] (.vec 1 xs.length) hdr:=by
   simp only [V.rep,uH,yP];exact ⟨yk _,λ_=>⟨cells,hrow,trivial,by rw [hownE];exact hflat⟩⟩
  refine ⟨⟨λi j q hi hj=>?_,λq hq2=>?_,λq hq2=>?_,hA,by rw [hownE];exact hG⟩,rfl,λi k hk=>?_,λu v hv=>?_,rfl,hsz,Fr.refl _ _,λq hq2=>?_,λp hp=>?_⟩
  ·match i,j with
   | 0,0=>rfl
   | 1,1=>rfl
   | 0,1=>
    simp only [yP,uH,yj] at hi hj;exact absurd hi.symm (hq q hj).2.1
   | 1,0=>
    simp only [yP,uH,yj] at hi hj;exact absurd hj.symm (hq q hi).2.1
   | n+2,_=>simp at hi
   | _,n+2=>simp at hj
  ·simp only [yI,yj,List.not_mem_nil,or_false] at hq2;rcases hq2 with rfl | e
   ·exact hAb
   ·exact (hq q e.symm).1
  ·simp only [yI,yj,List.not_mem_nil,or_false] at hq2;rcases hq2 with rfl | e
   ·exact hbw
   ·exact (hq q e.symm).2.2
  ·match i with
   | 0=>
    simp only [yP,yj] at hk;subst hk;simp only [Blk.rep];exact ⟨b,us,rfl,hh,V.zvO.2 (by rw [hownE];exact hcs)⟩
   | 1=>
    simp only [yP,uH,yj] at hk;subst hk;simp only [Blk.rep]
   | n+2=>simp at hk
  ·simp only [zbc] at hv;split at hv
   ·rename_i e;cases hv;subst e;refine ⟨by show 0<fn.ntmps;omega,?_⟩;simp only [V.rep,yP];refine ⟨b,rfl,?_⟩;show (vs++Array.replicate (fn.ntmps - vs.size) undef).getD 0 undef=_;rw [hget 0 (by omega),hvs];rfl
   ·split at hv
    ·rename_i e;cases hv;subst e;refine ⟨by show 1<fn.ntmps;omega,?_⟩;have:(vs++Array.replicate (fn.ntmps - vs.size) undef).getD 1 undef=hdr:=by rw [hget 1 (by omega),hvs];rfl
     show V.rep _ _ _ _ _ ((vs++Array.replicate (fn.ntmps - vs.size) undef).getD 1 undef);rw [this];exact hvec
    ·have:=zdZ (A:=Own A [some b,hdr.ownBlock]) (w:=w) (bs:=[some b,hdr.ownBlock]) (H:=[.box t (cs.map V.d),.vec vt vk xs]) zs 2 vr (vs++Array.replicate (fn.ntmps - vs.size) undef) (by rw [hownE];exact hr)
      (λj hj=>by
       rw [hget (2+j) (by omega),hvs,Nat.add_comm];rfl)
      (by rw [hsz];omega) u v hv
     rw [hsz] at this;exact this
  ·simp only [yI,yj,List.not_mem_nil,or_false] at hq2;rcases hq2 with rfl | e
   ·exact .inl (.inl rfl)
   ·exact .inl (.inr e.symm)
  ·rcases yI.1 hp with rfl | hp
   ·refine ⟨rfl,?_⟩;simp only [V.rep,yP];exact ⟨b,rfl,rfl⟩
   ·obtain rfl:p=(.vec 1 xs.length,hdr):=by simpa using hp
    exact ⟨rfl,hvec⟩
 refine calls_of_wp hf hb (Code.wp_mono ?_ ((h A b hdr w).run _ _ w hR));rintro e a' w' (⟨bs',s',hQ,hR'⟩ | ⟨_,hE⟩)
 case inr=>exact hE.elim
 have hfin:∀ cs',s'.H[0]? = some (.box t (List.map V.d cs'))→(∃ t1 k1 xs',s'.H[1]? = some (.vec t1 k1 xs')∧xs'.length=xs.length)→(∀ c,(A c∨c=b∨hdr.ownBlock=some c)→Own A bs' c)∧∃ us',w'.heap[b]? = some (.cells us' t (0,0))∧D.reps (λc=>A c∨c=b∨hdr.ownBlock=some c) w' cs' us'.toList:=λcs' hH ⟨t1,k1,xs',hH1,hx1⟩=>by
  have hg:=(hR'.gh _ (uM)).2;simp only [V.rep,hH] at hg;obtain ⟨b1,hb1,e1⟩:=hg;obtain rfl:b=b1:=by simpa using e1
  have hg2:=(hR'.gh _ (yX _ uM)).2;simp only [V.rep,hH1] at hg2;obtain ⟨-,hg2⟩:=hg2;obtain ⟨-,-,hq1,-⟩:=hg2 hx1.symm;have hblk:=hR'.blk 0 _ hH;simp only [Blk.rep] at hblk;obtain ⟨b2,us',hb2,hh2,hr2⟩:=hblk;obtain rfl:b=b2:=by rw [hb1] at hb2;simpa using hb2
  have hin:∀ c,(A c∨c=b∨hdr.ownBlock=some c)→Own A bs' c:=λc hc=>by
   rcases hc with hc | rfl | hc
   ·exact .inl hc
   ·exact .inr (yx hb1)
   ·exact .inr (by rw [hc] at hq1;exact yx hq1)
  exact ⟨hin,us',hh2,D.zut (Fr.refl ze w') (λ_ x=>x.elim) (λc _ hc=>hin c hc) _ _ (V.zvO.1 hr2)⟩
 rcases hQ with ⟨i,T,ds,cs',ho,rfl,ht,hi,hsh,h0,h1⟩ | ⟨cs',ho,rfl,h0,h1⟩
 ·obtain ⟨hin,us',g1,g2⟩:=hfin cs' h0 h1;have hp:=(hR'.tmp tt _ ht).2;simp only [V.rep,hi] at hp;obtain ⟨bi,hbi,hp⟩:=hp;have hblk:=hR'.blk i _ hi;simp only [Blk.rep] at hblk;obtain ⟨bi2,vs',hbi2,hh2,hr2⟩:=hblk;obtain rfl:bi=bi2:=by rw [hbi] at hbi2;simpa using hbi2
  have hrep:D.rep (Own A bs') w' (.agg ds) (.agg vs'):=by simp only [D.rep];exact ⟨vs',rfl,V.zvO.1 hr2⟩
  have hl:=zco (P:=P) (A:=Own A bs') (d:=.agg ds) (b:=bi) (off:=0) hsh hrep rfl (λj hj=>by rw [uk,zV hh2];simp [Value.cells]);simp only [Instr.loadAt,Instr.sureAddr,Sem.run_bind,Sem.run_pure,Result.andThen_ok] at hl;have hone:(zel a'.tmps (.cell tt ty)).run P w' = .ok (.agg vs') w':=by simp only [zel,Sem.run_bind,hp,asAddr,Sem.run_pure,Result.andThen_ok,hl]
  refine ⟨hR'.defers,.agg vs',?_,us',cs',hR'.fr,g1,g2,.inl ⟨_,_,ho,rfl,D.zuU (Fr.refl ze w') (λ_ x=>x.elim) (λc _ hc=>hin c hc) _ _ hrep⟩⟩;rw [zb1,hrs];simp [hone]
 ·obtain ⟨hin,us',g1,g2⟩:=hfin cs' h0 h1;exact ⟨hR'.defers,us',cs',hR'.fr,g1,g2,.inr ⟨ho,rfl⟩⟩
def zi1 (w w':World) (q:Option Nat):World:=match q with
 | none=>w
 | some q=>{ w with heap:=w.heap.setIfInBounds q ((w'.heap[q]?).getD default) }
theorem zrA (w w':World) (q:Option Nat):Fr (λc=>q=some c) w (zi1 w w' q):=by
 cases q with
 | none=>exact Fr.refl _ _
 | some q=>
  refine ⟨rfl,rfl,rfl,by simp [zi1],λc hc hn=>?_,λ_=>yk _⟩;have:q≠c:=λe=>hn (by rw [e])
  simp only [zi1];rw [Array.getElem?_setIfInBounds_ne this]
theorem zq6 {w w':World} {q:Option Nat} {W:Nat→Prop} (h:Fr (λc=>W c∨q=some c) w w'):Fr W (zi1 w w' q) w':=by
 cases q with
 | none=>exact h.mono λc _ hc=>hc.elim (λh=>h) λh=>by cases h
 | some q=>
  have hs:(zi1 w w' (some q)).heap.size=w.heap.size:=by simp [zi1]
  refine ⟨h.os,h.tape,h.output,by rw [hs];exact h.size,λc hc hn=>?_,h.drawn⟩;rw [hs] at hc;simp only [zi1];by_cases e:q=c
  ·subst e;have hlt:q<w'.heap.size:=yD hc h.size;rw [Array.getElem?_setIfInBounds_self_of_lt hc];simp [hlt]
  ·rw [Array.getElem?_setIfInBounds_ne e];exact h.block c hc λh2=>h2.elim hn λh2=>e (by simpa using h2)
theorem TriL.turn2 {P:Program} {C:Ctx} {ops:Array Oper} {o:Oper} {rest:List Oper} {Q:Exit→St→Prop} {T:List (Nat×V)} {H:List Blk} {f pv t cs vt vk xs zs r d bi vi ys} (hp:zvG P f pv t cs vt vk xs zs r) (hg:o.guard=none) (hd:o.dst=some d) (hdn:Nat.blt d C.n=true)
  (hc:zvx P o (ev T) f ys) (hz:ys = .loc bi 0::.vec vi xs.length::zs.map V.d) (hB:H[bi]? = some (.box t (cs.map V.d))) (hV:H[vi]? = some (.vec vt vk xs))
  (kk:∀ y cs',r=some (y,cs')→TriL P C ops rest Q ⟨(d,.d y)::T,(H.set bi (.box t (cs'.map V.d))).set vi .dead⟩)
  (kp:∀ cs':List D,r=none→Q (.panic [{ v:=pv,recovered:=false }]) ⟨T,(H.set bi (.box t (cs'.map V.d))).set vi .dead⟩):TriL P C ops (o::rest) Q ⟨T,H⟩:=by
 subst hz;refine ⟨λbs a w hR=>wpList_plain hg λK hK=>?_⟩;obtain ⟨vs,hrun,hvs⟩:=hc.run (Own C.A0 bs) w bs H a.eval (λx _ y hx=>hR.ev hx) (λ_=>rfl);simp only [V.reps] at hvs;obtain ⟨v0,vr0,hvs0,hv0,hdr,vr,rfl,hv1,hvr⟩:=hvs;simp only [V.rep,hB] at hv0;obtain ⟨b,hb,rfl⟩:=hv0;simp only [V.rep,hV] at hv1;obtain ⟨cells,hrow,hq,hflat⟩:=hv1.2 trivial;have hblk:=hR.blk bi _ hB;simp only [Blk.rep] at hblk;obtain ⟨b2,us,hb2,hh,hcs⟩:=hblk;obtain rfl:b=b2:=by rw [hb] at hb2;simpa using hb2
 have hbv:bi≠vi:=λe=>by subst e;rw [hB] at hV;cases hV
 have hqb:∀ c,hdr.ownBlock=some c→c≠b∧some c∈bs:=λc hc=>by
  rw [hc] at hq;refine ⟨λe=>?_,yx hq⟩;subst e;exact hbv (hR.own.apart _ _ _ hb hq)
 have hbm:some b∈bs:=yx hb;have hfun:(λc=>(Own C.A0 bs c∧c≠b∧hdr.ownBlock≠some c)∨c=b∨hdr.ownBlock=some c)=Own C.A0 bs:=funext λc=>propext ⟨λh=>by
   rcases h with h | rfl | h
   ·exact h.1
   ·exact .inr hbm
   ·exact .inr (hqb c h).2,λh=>by
   by_cases e1:c=b
   ·exact .inr (.inl e1)
   ·by_cases e2:hdr.ownBlock=some c
    ·exact .inr (.inr e2)
    ·exact .inl ⟨h,e1,e2⟩⟩
 have hcall:=hp.run (λc=>Own C.A0 bs c∧c≠b∧hdr.ownBlock≠some c) w b hdr vs us cells vr (λc hc=>hc.1.elim (hR.own.zt4 c) (hR.own.lt c)) (by rw [hfun];exact hR.own.glob) (λh=>h.2.1 rfl) (hR.own.lt b hbm)
  (λc hc=>⟨λh=>h.2.2 hc,(hqb c hc).1,hR.own.lt c (hqb c hc).2⟩) hh (by rw [hfun];exact V.zvO.1 hcs) hrow (by rw [hfun];exact hflat) hvs0 (by rw [hfun];exact V.zvO.1 hvr)
 rw [hfun] at hcall;have hset:∀ (i:Nat) (x:Option Nat),bs[i]? = some x→bs.set i x=bs:=λi x hx=>by
  refine ud λj=>?_
  by_cases hij:i=j
  ·subst hij;rw [yu (yc.1 hx).1,hx]
  ·rw [yw hij]
 unfold Oper.wp;rw [hrun];simp only [Oper.upon];refine hcall.mono ?_;rintro e w' ⟨us',cs',hf,hh',hcs',hout⟩;have hR1:R C bs ⟨T,H.set vi .dead⟩ a (zi1 w w' hdr.ownBlock):=by
  have:=R.upd (y:=.dead) (c':=hdr.ownBlock) hR hV hq (by simp [Compat]) (zrA w w' _) (.inl rfl) (by simp only [Blk.rep])
  rwa [hset vi _ hq] at this
 have hB1:(H.set vi .dead)[bi]? = some (.box t (cs.map V.d)):=by rw [yw hbv.symm];exact hB
 have hf2:Fr (λc=>some b=some c) (zi1 w w' hdr.ownBlock) w':=(zq6 (hf.mono λc _ hc=>hc)).mono λc _ hc=>by rw [hc]
 have hR2:R C bs ⟨T,(H.set bi (.box t (cs'.map V.d))).set vi .dead⟩ a w':=by
  have:=R.upd (y:=.box t (cs'.map V.d)) (c':=some b) hR1 hB1 hb (by simp [Compat]) hf2 (.inl rfl) (by
   simp only [Blk.rep];refine ⟨b,us',by rw [hset bi _ hb];exact hb,hh',?_⟩;rw [hset bi _ hb];exact V.zvO.2 hcs')
  rw [hset bi _ hb] at this
  rwa [List.set_comm _ _ hbv.symm] at this
 rcases hout with ⟨y,u,ho,rfl,hu⟩ | ⟨ho,rfl⟩
 ·have hput:=hR2.put (Fr.refl _ _) (some d) (by simpa [zup] using hdn) (v:=.d y) (u:=u) (by simpa only [V.rep] using hu);rw [← hd] at hput;refine hK _ _ ((kk y cs' ho).run bs _ _ ?_);rw [hd] at hput ⊢;exact hput
 ·exact .inl ⟨bs,_,kp cs' ho,hR2⟩
end
section
variable [ztS] [Drw]
theorem D.zxj {A A' w w' k}:∀ {xs:List D} {cs:List Value},(∀ x∈xs,x.scal=true)→D.flat A w k xs cs→D.flat A' w' k xs cs
 | [],_,_,h=>by simpa only [D.flat] using h
 | x::xs,cs,hs,h=>by
  simp only [D.flat] at h ⊢;obtain ⟨u,cs',e,h1,h2,h3⟩:=h;exact ⟨u,cs',e,h1,D.zwt (hs x (by simp)) h2,D.zxj (λy hy=>hs y (by simp [hy])) h3⟩
theorem TriL.zxM {P:Program} {C:Ctx} {ops:Array Oper} {o:Oper} {rest:List Oper} {Q:Exit→St→Prop} {T:List (Nat×V)} {H:List Blk} {f args tys xs t k Y d} (hg:o.guard=none) (ho:o.op = .call { callee:=.value (.func f),args:=args,argTypes:=tys }) (hd:o.dst=some d) (hdn:Nat.blt d C.n=true) (hc:ztT P f=true) (ha:Lent (ev T) H args.toList xs) (hp:zxb P f xs t k Y)
  (hs:∀ l,Y l→∀ x∈l,x.scal=true) (kk:∀ l,Y l→TriL P C ops rest Q ⟨(d,.vec H.length l.length)::T,H++[.vec t k l]⟩):TriL P C ops (o::rest) Q ⟨T,H⟩:=by
 refine ⟨λbs a w hR=>wpList_plain hg λK hK=>?_⟩;have hk:∀ k,a.eval (.func k) = .func (.func k) #[] #[]:=λ_=>rfl
 have hrun:(execOp a.eval o).run P w = .ok (.enter f (args.map a.eval)) w:=by
  simp only [execOp,ho,resolve,hk,Deferred.ofValue,Sem.run_bind,Sem.run_pure,Result.andThen_ok,invoke];simpa using zaW hc (args.map a.eval) w
 have hreps:D.reps C.A0 w xs (args.map a.eval).toList:=by
  have:=ha.reps (w:=w) (f:=a.eval) hR.mem (λx _ y hy=>hR.ev hy);simpa using this
 have hlen:=hR.len;simp only at hlen;refine Oper.zu5 (K:=λu w'=>∃ l cells,Y l∧Fr ze w w'∧w'.ownsRow w.heap.size t k u l.length cells∧D.flat (λb=>Own C.A0 bs b∨u.ownBlock=some b) w' k l cells) ?_ λu w' ⟨l,cells,hY,hf,hown,hfl⟩=>?_
 ·rw [hrun];refine (hp.run C.A0 w (args.map a.eval) hR.own.zt4 (hR.own.glob.fr (Fr.refl ze w) (λ_ x=>x.elim) (λ_ _ h=>.inl h)) hreps).mono ?_;rintro e' w' ⟨u,l,cells,he,h1,h2,h3,h4⟩;exact ⟨u,he,l,cells,h1,h2,h3,D.zxj (hs l h1) h4⟩
 ·have hbl:∃ bs',R C bs' ⟨(d,.vec H.length l.length)::T,H++[.vec t k l]⟩ (a.put o.dst u) w':=by
   rcases hown.2 with ⟨hnil,h0⟩ | ⟨g,cap,cur,hu,hbase,hheap,hrest⟩
   ·have h1:R C (bs++[none]) ⟨T,H++[.vec t k l]⟩ a w':=by
     have:=hR.put hf none rfl (v:=.junk) (u:=undef) (by simp only [V.rep]);exact R.zwu (k:=.vec t k l) this λ_ _ _=>by simp only [Blk.rep]
    refine ⟨bs++[none],?_⟩;have:=h1.put (Fr.refl _ _) (some d) (by simpa [zup] using hdn) (v:=.vec H.length l.length) (u:=u) (by
     simp only [V.rep];rw [yF (yk _)];simp only [uu,yP];refine ⟨yk _,λ_=>⟨cells,⟨hown.1,.inl ⟨hnil,h0⟩⟩,by rw [← hlen,hnil];simp [Value.ownBlock],D.zug (Fr.refl ze w') (λ_ x=>x.elim) (λb _ hb=>.inl ?_) _ _ hfl⟩⟩;rcases hb with hb | hb
     ·exact .inl hb
     ·rcases yr.1 hb with hb | hb
      ·exact .inr hb
      ·simp at hb)
    rw [hd];exact this
   ·have hgA:¬ C.A0 g:=λh=>absurd (hR.own.zt4 g h) (by omega)
    have hgl:g<w'.heap.size:=(yn.1 hheap).1;have h1:R { C with A0:=λc=>C.A0 c∨c=g } bs ⟨T,H⟩ a w':=
     hR.zuO (A:=λc=>C.A0 c∨c=g) hf (λb hb hb'=>hb'.elim id (λe=>by omega)) (λb hb=>by
      rcases hb with hb | rfl
      ·exact yD (hR.own.zt4 b hb) hf.size
      ·exact hgl)
    have h2:=R.zwU (C:=C) t k l h1 hheap hgA (yJ hR.fr.size hbase);refine ⟨bs++[some g],?_⟩;have:=h2.put (Fr.refl _ _) (some d) (by simpa [zup] using hdn) (v:=.vec H.length l.length) (u:=u) (by
     simp only [V.rep];rw [yF (yk _)];simp only [uu,yP];refine ⟨yk _,λ_=>⟨cells,⟨hown.1,.inr ⟨g,cap,cur,hu,yp _,hheap,hrest⟩⟩,by rw [← hlen,hu];simp [Value.ownBlock],D.zug (Fr.refl ze w') (λ_ x=>x.elim) (λb _ hb=>?_) _ _ hfl⟩⟩;rcases hb with hb | hb
     ·exact .inl (.inl hb)
     ·rcases yr.1 hb with hb | hb
      ·exact .inl (.inr hb)
      ·simp only [yG,yj] at hb;subst hb;exact .inr (by rw [hu];rfl))
    rw [hd];exact this
  obtain ⟨bs',hR'⟩:=hbl;exact hK _ _ ((kk l hY).run bs' _ _ hR')
theorem zqW {P:Program} {f:FuncId} {fn:Func} {α:Type} {t el:TypeId} {k bytes:Nat} {enc:α→D} {xs zs:List α} (hf:P.funcs[f]? = some fn) (hbody:fn.body=some (ziA t)) (hN:fn.ntmps=8) (hrs:fn.results = #[.tmp 2])
  (ht:zbq P t el k bytes=true) (hb:Nat.blt 0 bytes=true) (hones:∀ z,(enc z).ones=true) (hk:∀ x,(enc x).kOK k=true) (hv:Go.Proofs.YtipkniadbkndfaaGreatDoor.app bytes [] xs=some zs):zxb P f [.sl k (xs.map enc)] el k (λl=>l=zs.map enc):=by
 have hz:zs=xs:=by have:=(appS hv).1;simpa using this
 have htu:=(zbA ht).1;refine zxb.zwB hf hbody hrs (by rw [hN];simp) λA w=>?_
 rw [hN];refine .seq (.region (.op rfl rfl (.assign rfl rfl) (.nil ?_)));refine .seq (.seq (.region (.op rfl rfl (.move rfl rfl) (.eqNil rfl rfl rfl htu rfl λb hxs=>.nil ?_))));refine .cond (t:=b) rfl (λhbt=>?_) (λ_=>.skip ?_)
 ·have hxs:=hxs hbt;have hxs:xs=[]:=by simpa using hxs
  subst hxs;subst hz;refine .seq (.region (.op rfl rfl (.assign rfl rfl) (.nil ?_)));exact .zve 2 k el rfl (.ret ⟨rfl,0,[],rfl,rfl,rfl⟩)
 ·refine .seq (.region (.zv7 (α:=α) (enc:=enc) [] rfl rfl rfl rfl rfl ht rfl hk (by simp [Nat.ble_eq]) ?_));refine .op rfl rfl (.move rfl rfl) ?_;refine .app rfl rfl rfl rfl rfl rfl rfl rfl ht hb hones hv ?_;refine .op rfl rfl (.assign rfl rfl) (.nil ?_);exact .ret ⟨rfl,0,zs.map enc,by simp [look,St.put],rfl,rfl⟩
theorem TriL.cloneB {P:Program} {C:Ctx} {ops:Array Oper} {o:Oper} {rest:List Oper} {Q:Exit→St→Prop} {T:List (Nat×V)} {H:List Blk} {f:FuncId} {fn:Func} {x:Operand} {tys:Array TypeId} {α:Type} {t el:TypeId} {k bytes d i n el':Nat} {enc:α→D} {xs zs:List α}
  (hg:o.guard=none) (ho:o.op = .call { callee:=.value (.func f),args:=#[x],argTypes:=tys }) (hd:o.dst=some d) (hdn:Nat.blt d C.n=true) (hcl:ztT P f=true) (hf:P.funcs[f]? = some fn) (hbody:fn.body=some (ziA t)) (hN:fn.ntmps=8) (hrs:fn.results = #[.tmp 2])
  (hx:ev T x=some (.vec i n)) (hi:H[i]? = some (.vec el' k (xs.map enc))) (hn:n=xs.length) (ht:zbq P t el k bytes=true) (hb:Nat.blt 0 bytes=true) (hones:∀ z,(enc z).ones=true) (hk:∀ x,(enc x).kOK k=true) (hsc:∀ x,(enc x).scal=true) (hv:Go.Proofs.YtipkniadbkndfaaGreatDoor.app bytes [] xs=some zs)
  (kk:TriL P C ops rest Q ⟨(d,.vec H.length zs.length)::T,H++[.vec el k (zs.map enc)]⟩):TriL P C ops (o::rest) Q ⟨T,H⟩:=by
 refine .zxM hg ho hd hdn hcl (xs:=[.sl k (xs.map enc)]) (.cons hx (.vec hi (by simpa using hn)) .nil) (zqW hf hbody hN hrs ht hb hones hk hv) (λl hl z hz=>?_) λl hl=>?_
 ·subst hl;obtain ⟨y,-,rfl⟩:=yZ.1 hz;exact hsc y
 ·subst hl;rw [yL];exact kk
theorem TriL.turn2S {P:Program} {C:Ctx} {ops:Array Oper} {o:Oper} {rest:List Oper} {Q:Exit→St→Prop} {T:List (Nat×V)} {H:List Blk} {f pv t cs cs' vt vk xs zs y d bi vi ys} (hp:zvG P f pv t cs vt vk xs zs (some (y,cs'))) (hg:o.guard=none) (hd:o.dst=some d) (hdn:Nat.blt d C.n=true)
  (hc:zvx P o (ev T) f ys) (hz:ys = .loc bi 0::.vec vi xs.length::zs.map V.d) (hB:H[bi]? = some (.box t (cs.map V.d))) (hV:H[vi]? = some (.vec vt vk xs))
  (kk:TriL P C ops rest Q ⟨(d,.d y)::T,(H.set bi (.box t (cs'.map V.d))).set vi .dead⟩):TriL P C ops (o::rest) Q ⟨T,H⟩:=
 .turn2 hp hg hd hdn hc hz hB hV (λy' cs2 h=>by cases h;exact kk) (λ_ h=>by cases h)
theorem TriL.turn2P {P:Program} {C:Ctx} {ops:Array Oper} {o:Oper} {rest:List Oper} {Q:Exit→St→Prop} {T:List (Nat×V)} {H:List Blk} {f pv t cs vt vk xs zs d bi vi ys} (hp:zvG P f pv t cs vt vk xs zs none) (hg:o.guard=none) (hd:o.dst=some d) (hdn:Nat.blt d C.n=true)
  (hc:zvx P o (ev T) f ys) (hz:ys = .loc bi 0::.vec vi xs.length::zs.map V.d) (hB:H[bi]? = some (.box t (cs.map V.d))) (hV:H[vi]? = some (.vec vt vk xs))
  (kp:∀ cs':List D,Q (.panic [{ v:=pv,recovered:=false }]) ⟨T,(H.set bi (.box t (cs'.map V.d))).set vi .dead⟩):TriL P C ops (o::rest) Q ⟨T,H⟩:=
 .turn2 hp hg hd hdn hc hz hB hV (λ_ _ h=>by cases h) (λcs2 _=>kp cs2)
section
variable {P:Program} {o:Oper} {e:Operand→Option V} {H:List Blk}
theorem OpV.zyl {t x u el k} {α:Type} {enc:α→D} {l:List α} (ho:o.op = .binOp .neq t x (.const (.slice none 0 0)) u) (htu:P.underlying t=some (.slice el)) (hx:e x=some (.d (.osl k (l.map enc)))):OpV P o e H (.d (.bool (!l.isEmpty))):=by
 refine ⟨λA0 bs w f m hf hc _=>?_⟩;have h1:=hf x (by simp [ho,Op.operands]) _ hx;simp only [V.rep,D.rep] at h1;obtain ⟨p,cap,hv,hcap,hn,hr⟩:=h1;have hp:p.isNone=l.isEmpty:=by
  cases l with
  | nil=>rw [(hn rfl).1];rfl
  | cons y l=>
   rcases hr with hr | ⟨b,off,e1,_⟩
   ·simp at hr
   ·rw [e1];rfl
 have hrun:(execOp f o).run P w = .ok (.value (.bool (!l.isEmpty))) w:=by
  simp only [execOp,ho,hv,hc];have hguard:(eqGuard BinOp.neq t x (Operand.const (Value.slice none 0 0)) (Value.slice p l.length cap) (Value.slice none 0 0)).run P w = .ok () w:=by simp [eqGuard]
  have hneq:(binOp .neq t (.slice p l.length cap) (.slice none 0 0)).run P w = .ok (.bool (!p.isNone)) w:=by
   simp only [binOp];simp [Op.equal,Op.maxDepth,Lib.run_equalIn_slice_nil w 9999 t el p l.length cap 0 0 htu]
  simp [hguard,hneq,hp]
 rw [hrun];exact ⟨Fr.refl _ _,by simp only [V.rep,D.rep]⟩
end
theorem ztz {α:Type} {k:Nat} {enc:α→D} {l:List α}:D.Le (.osl k (l.map enc)) (.sl k (l.map enc)):=.osl _ _
theorem TriL.toOsl {P C ops rest Q T H} {α:Type} {k:Nat} {enc:α→D} {l:List α} (t) (ht:look t T=some (.d (.sl k (l.map enc)))) (h:l.isEmpty=false) (kk:TriL P C ops rest Q ⟨(t,.d (.osl k (l.map enc)))::T,H⟩):TriL P C ops rest Q ⟨T,H⟩:=
 ⟨λ_ a w hR=>kk.run _ a w (hR.know (hR.tmp t _ ht).1 (by
  have h1:=(hR.tmp t _ ht).2;simp only [V.rep,D.rep] at h1 ⊢;obtain ⟨p,cap,hv,hcap,hr⟩:=h1;exact ⟨p,cap,hv,hcap,λe=>by
   have e2:l=[]:=by simpa using e
   subst e2;simp at h,hr⟩))⟩
end
def pnk {α β:Type} (r:Option α) (k:α→Option (Option β)):Option (Option β):=match r with
 | none=>some none
 | some x=>k x
theorem pnkS {α β:Type} {r:Option α} {k:α→Option (Option β)} {o:Option β} (h:pnk r k=some o):(r=none∧o=none)∨∃ x,r=some x∧k x=some o:=by
 cases r with
 | none=>simp only [pnk,yj] at h;exact .inl ⟨rfl,h.symm⟩
 | some x=>exact .inr ⟨x,rfl,h⟩
def ppk {α β:Type} (r:Option α) (a:Option β) (k:α→Option β):Option β:=match r with
 | none=>a
 | some x=>k x
theorem ppkS {α β:Type} {r:Option α} {a:Option β} {k:α→Option β} {o:Option β} (h:ppk r a k=o):(r=none∧a=o)∨∃ x,r=some x∧k x=o:=by
 cases r with
 | none=>exact .inl ⟨rfl,h⟩
 | some x=>exact .inr ⟨x,rfl,h⟩
section
variable [ztS] [Drw]
theorem zgl.imp {P:Program} {K K':Value→World→Prop} (h:∀ u w,K u w→K' u w):∀ {r:Result Next},zgl P K r→zgl P K' r
 | .ok (.value _) _,hr=>h _ _ hr
 | .ok .skip _,hr=>h _ _ hr
 | .ok (.enter _ _) _,hr=>Calls.mono hr λ_ _ ⟨u,he,hk⟩=>⟨u,he,h _ _ hk⟩
theorem OpV.leD {P:Program} {o:Oper} {e:Operand→Option V} {H:List Blk} {d d':D} (hle:D.Le d d') (h:OpV P o e H (.d d)):OpV P o e H (.d d'):=
 ⟨λA0 bs w f hm hf hc hk=>zgl.imp (λu w' ⟨h1,h2⟩=>⟨h1,by simp only [V.rep] at h2 ⊢;exact hle.rep h2⟩) (h.run A0 bs w f hm hf hc hk)⟩
section
variable {P:Program} {o:Oper} {e:Operand→Option V} {H:List Blk}
theorem OpV.extractV {x i cs v} (ho:o.op = .extract x i) (hx:e x=some (.tup cs)) (hd:cs[i]? = some v):OpV P o e H v:=
 .of_same λA0 bs w f _ hf=>by
  have h1:=hf x (by simp [ho,Op.operands]) _ hx;simp only [V.rep] at h1;obtain ⟨vs,hv,hr⟩:=h1;obtain ⟨u,hu,hru⟩:=V.zuE hr i v hd;refine ⟨u,?_,hru⟩;have hu':vs[i]? = some u:=by simpa using hu
  simp [execOp,ho,hv,Instr.extract,hu']
end
theorem Tri.eqD {P C c Q T H} (t) {d d'} (ht:look t T=some (.d d)) (e:d=d') (k:Tri P C c Q ⟨(t,.d d')::T,H⟩):Tri P C c Q ⟨T,H⟩:=by
 subst e;exact ⟨λbs a w hR=>k.run bs a w (hR.know (hR.tmp t _ ht).1 (hR.tmp t _ ht).2)⟩
theorem TriL.zys {P:Program} {C:Ctx} {ops:Array Oper} {o:Oper} {rest:List Oper} {Q:Exit→St→Prop} {T:List (Nat×V)} {H:List Blk} {f pv t cs cs' vt vk xs zs y d bi vi ys nn} (hp:zvG P f pv t cs vt vk xs zs (some (y,cs'))) (hg:o.guard=none) (hd:o.dst=some d) (hdn:Nat.blt d C.n=true)
  (hc:zvx P o (ev T) f ys) (hz:ys = .loc bi 0::.vec vi nn::zs.map V.d) (hn:nn=xs.length) (hB:H[bi]? = some (.box t (cs.map V.d))) (hV:H[vi]? = some (.vec vt vk xs))
  (kk:TriL P C ops rest Q ⟨(d,.d y)::T,(H.set bi (.box t (cs'.map V.d))).set vi .dead⟩):TriL P C ops (o::rest) Q ⟨T,H⟩:=.turn2S hp hg hd hdn hc (hn▸hz) hB hV kk
theorem TriL.zyr {P:Program} {C:Ctx} {ops:Array Oper} {o:Oper} {rest:List Oper} {Q:Exit→St→Prop} {T:List (Nat×V)} {H:List Blk} {f pv t cs vt vk xs zs d bi vi ys nn} (hp:zvG P f pv t cs vt vk xs zs none) (hg:o.guard=none) (hd:o.dst=some d) (hdn:Nat.blt d C.n=true)
  (hc:zvx P o (ev T) f ys) (hz:ys = .loc bi 0::.vec vi nn::zs.map V.d) (hn:nn=xs.length) (hB:H[bi]? = some (.box t (cs.map V.d))) (hV:H[vi]? = some (.vec vt vk xs))
  (kp:∀ cs':List D,Q (.panic [{ v:=pv,recovered:=false }]) ⟨T,(H.set bi (.box t (cs'.map V.d))).set vi .dead⟩):TriL P C ops (o::rest) Q ⟨T,H⟩:=.turn2P hp hg hd hdn hc (hn▸hz) hB hV kp
def ResC (P:Program) (s:St) (rs:List ResultVar) (v:V):Prop:=match rs with
 | [.cell tt ty]=>∃ i T cs,look tt s.T=some (.loc i 0)∧s.H[i]? = some (.box T cs)∧zZ P ty=some (some cs.length)∧packV cs=v
 | rs=>∃ vs,ResV s rs vs∧ze0 vs=v
def retVC (P:Program) (rs:List ResultVar) (K:V→List Blk→Prop) (Kp:List PanicEntry→List Blk→Prop) (e:Exit) (s:St):Prop:=
 ((e = .ret∨e = .normal)∧∃ v,ResC P s rs v∧K v s.H)∨∃ ch,e = .panic ch∧Kp ch s.H
theorem zsd {P C bs s a w} {fn:Func} {rs:List ResultVar} {v} (hR:R C bs s a w) (hrs:fn.results=rs.toArray) (h:ResC P s rs v) :
  ∃ u,(results fn a.tmps).run P w = .ok u w∧V.rep (Own C.A0 bs) w bs s.H v u:=by
 unfold ResC at h;split at h
 ·rename_i tt ty;obtain ⟨i,T,cs,ht,hi,hsh,rfl⟩:=h;have hp:=(hR.tmp tt _ ht).2;simp only [V.rep,hi] at hp;obtain ⟨bi,hbi,hp⟩:=hp;have hblk:=hR.blk i _ hi;simp only [Blk.rep] at hblk;obtain ⟨bi2,vs,hbi2,hh,hreps⟩:=hblk;obtain rfl:bi=bi2:=by rw [hbi] at hbi2;simpa using hbi2
  have hlen:=V.zub hreps;simp only [yt] at hlen;refine ⟨.agg vs,?_,?_⟩
  ·unfold zZ at hsh;cases hut:P.underlying ty with
   | none=>simp [hut] at hsh
   | some u=>
    simp only [hut] at hsh;by_cases hrow:u.isRow=true
    ·rw [if_pos hrow] at hsh;cases hi2:P.info? ty with
     | none=>simp [hi2] at hsh
     | some inf=>
      simp only [hi2,yT,yj] at hsh;have hl:=run_loadAt_mid (P:=P) w bi 0 ty vs.toList u (λj x hx=>by
       rw [zV hh];simpa using hx) hut hrow (by simp [hi2,hsh];omega)
      simp only [Instr.loadAt,Instr.sureAddr,Sem.run_bind,Sem.run_pure,Result.andThen_ok] at hl;have hone:(zel a.tmps (.cell tt ty)).run P w = .ok (.agg vs) w:=by simp only [zel,Sem.run_bind,hp,asAddr,Sem.run_pure,Result.andThen_ok,hl,Array.toArray_toList]
      rw [zb1,hrs];simp [hone]
    ·rw [if_neg hrow] at hsh;simp at hsh
  ·unfold packV;split
   ·rename_i ds hd;rw [zk6 hd] at hreps;simp only [V.rep,D.rep];exact ⟨_,rfl,V.zvO.1 hreps⟩
   ·simp only [V.rep];exact ⟨_,rfl,hreps⟩
 ·obtain ⟨vs,hv,rfl⟩:=h;exact znI (P:=P) (fn:=fn) hR (by rw [hrs];exact hv)
theorem TriL.zvl {P C ops o rest Q T H f fn c xs N} {rs:List ResultVar}
  (hg:o.guard=none) (hd:zup o.dst C.n=true) (hc:zvx P o (ev T) f xs) (hf:P.funcs[f]? = some fn) (hb:fn.body=some c) (hN:fn.ntmps=N) (hrs:fn.results=rs.toArray) (hn:Nat.ble xs.length N=true)
  (hu:(T.all λp=>p.2.under H.length)=true) (hgn:Nat.ble C.gn H.length=true)
  (h:∀ (own0:Nat→Prop) (w:World) (gh:List (V×Value)),Tri P ⟨C.A0,own0,w,N,λ_ _=>False,gh,H.length,[]⟩ c (retVC P rs (λv H'=>TriL P C ops rest Q ⟨putT T o.dst v,H'⟩) (λch H'=>Q (.panic ch) ⟨T,H'⟩)) ⟨zbQ 0 xs,H⟩):TriL P C ops (o::rest) Q ⟨T,H⟩:=by
 subst hN;have hgn:=yf hgn;have hn:=yf hn;refine ⟨λbs a w hR=>wpList_plain hg λK hK=>?_⟩;obtain ⟨vs,hrun,hvs⟩:=hc.run (Own C.A0 bs) w bs H a.eval (λx _ y hx=>hR.ev hx) (λ_=>rfl);unfold Oper.wp;rw [hrun];simp only [Oper.upon];have hlen:=V.zu3 hvs;simp only [yt] at hlen;refine calls_of_wp hf hb ?_;have h0:=h (λb=>C.own0 b∨some b∈bs) w (C.gh++vals a T T);have hR0:R ⟨C.A0,λb=>C.own0 b∨some b∈bs,w,fn.ntmps,λ_ _=>False,C.gh++vals a T T,H.length,[]⟩ bs ⟨zbQ 0 xs,H⟩ { tmps:=vs++Array.replicate (fn.ntmps - vs.size) undef,defers:=[] } w:=by
  have hsz:(vs++Array.replicate (fn.ntmps - vs.size) undef).size=fn.ntmps:=by simp;omega
  refine ⟨hR.own,hR.len,hR.blk,λt v hv=>?_,rfl,hsz,Fr.refl _ _,λb hb=>.inl (.inr hb),λp hp=>?_⟩
  ·have:=zcR xs 0 vs.toList (vs++Array.replicate (fn.ntmps - vs.size) undef) hvs
    (λj hj=>by
     have hj':j<vs.size:=by simpa using hj
     simp [yN,Array.getElem?_append,hj',List.getD])
    (by rw [hsz];simp;omega) t v hv
   rw [hsz] at this;exact this
  ·rcases yr.1 hp with hp | hp
   ·exact ⟨V.zu4 hgn _ (hR.gh p hp).1,(hR.gh p hp).2⟩
   ·obtain ⟨t,h1,h2⟩:=zd8 hp;exact ⟨zdr hu h1,by rw [h2];exact (hR.tmp t _ h1).2⟩
 refine Code.wp_mono ?_ (h0.run bs _ w hR0);rintro e a' w' (⟨bs',s',hQ,hR'⟩ | ⟨_,hE⟩)
 case inr=>exact hE.elim
 have hsz:=hR'.fr.size;have hRC:R C bs' ⟨T,s'.H⟩ a w':=by
  refine ⟨hR'.own,hR'.len,hR'.blk,λt v hv=>⟨(hR.tmp t v hv).1,(hR'.gh _ (List.mem_append_right _ (zdG hv hv))).2⟩,hR.defers,hR.size,?_,λb hb=>?_,λp hp=>⟨(hR.gh p hp).1,(hR'.gh p (List.mem_append_left _ hp)).2⟩⟩
  ·have f1:=hR'.fr;refine ⟨f1.os.trans hR.fr.os,f1.tape.trans hR.fr.tape,f1.output.trans hR.fr.output,yJ hR.fr.size f1.size,λq hq hno=>?_,λd=>yJ (hR.fr.drawn d) (f1.drawn d)⟩;refine (f1.block q (yD hq hR.fr.size) λe=>?_).trans (hR.fr.block q hq hno);rcases e with e | e
   ·exact hno e
   ·rcases hR.new q e with e | e
    ·exact hno e
    ·omega
  ·rcases hR'.new b hb with (h1 | h1) | h1
   ·exact .inl h1
   ·exact hR.new b h1
   ·exact .inr (yJ hR.fr.size h1)
 rcases hQ with ⟨he,v,hres,hk⟩ | ⟨ch,rfl,hk⟩
 ·obtain ⟨u,hu1,hu2⟩:=zsd hR' hrs hres;have hfin:K (a.put o.dst u) w':=by
   have:=hRC.put (Fr.refl _ _) o.dst hd hu2;rw [St.put_eq] at this;exact hK _ _ (hk.run bs' _ _ this)
  rcases he with rfl | rfl
  ·exact ⟨hR'.defers,u,hu1,hfin⟩
  ·exact ⟨hR'.defers,u,hu1,hfin⟩
 ·exact ⟨hR'.defers,.inl ⟨bs',_,hk,hRC⟩⟩
end
def ze5 (n:Nat) (cf:Fin (n+1)→Fin (n+1)→Int):Array (Fin (n+1)):=Go.Sort.pdq (λx y=>decide (cf x y<0)) (Array.ofFn (n:=n+1) id) 0 (n+1) (Go.Lib.bitLen (n+1)) true true
def zwD {α:Type} (cf:α→α→Int):List α→List α
 | []=>[]
 | x::xs=>(ze5 xs.length λi j=>cf ((x::xs)[i.val]'(by simp)) ((x::xs)[j.val]'(by simp))).toList.map λi=>(x::xs)[i.val]'(by simp)
def swoB {α:Type} (cf:α→α→Int) (l:List α):Bool:=
 l.all λx=>!decide (cf x x<0)&&l.all λy=>l.all λz=>(!(decide (cf x y<0)&&decide (cf y z<0))||decide (cf x z<0))&&(decide (cf x y<0)||decide (cf y z<0)||!decide (cf x z<0))
def zxA {α:Type} (f:α→α→Option Int) (l:List α):Option (List α):=
 if (l.all λx=>l.all λy=>(f x y).isSome)&&swoB (λx y=>(f x y).getD 0) l&&decide (l.length<4611686018427387904) then some (zwD (λx y=>(f x y).getD 0) l) else none
section
open Go Go.RowKit Go.Sort Go.Shelf
theorem zrQ {α β:Type} {cf:α→α→Int} {l:List α} (h:swoB cf l=true) (g:β→α) (hg:∀ b,g b∈l):SWO (ltOf λx y:β=>cf (g x) (g y)):=by
 unfold swoB at h;rw [yq] at h;have k:∀ x y z:β,¬ cf (g x) (g x)<0∧(cf (g x) (g y)<0→cf (g y) (g z)<0→cf (g x) (g z)<0)∧(¬ cf (g x) (g y)<0→¬ cf (g y) (g z)<0→¬ cf (g x) (g z)<0):=by
  intro x y z;have h1:=h _ (hg x);rw [yd,yq] at h1;have h2:=h1.2 _ (hg y);rw [yq] at h2;have h3:=h2 _ (hg z);have h0:=h1.1;simp only [yB,yH] at h0;simp only [yd,yK,yB,uy,yg,yH] at h3;exact ⟨h0,by omega,by omega⟩
 refine ⟨λx=>?_,λx y z h1 h2=>?_,λx y z h1 h2=>?_⟩
 ·have:=(k x x x).1;simpa only [ltOf,yH] using this
 ·simp only [ltOf,yg] at *;exact (k x y z).2.1 h1 h2
 ·simp only [ltOf,yH] at *;exact (k x y z).2.2 h1 h2
theorem zir {n} {cf:Fin (n+1)→Fin (n+1)→Int} (hO:SWO (ltOf cf)):(ze5 n cf).size=n+1∧(ze5 n cf).toList.Perm (List.ofFn (n:=n+1) id)∧(ze5 n cf).toList.Pairwise λx y=>ltOf cf y x=false:=by
 obtain ⟨⟨h1,_,h2⟩,h3⟩:=pdq_sorts (ltOf cf) hO (Array.ofFn (n:=n+1) id) 0 (n+1) (Lib.bitLen (n+1)) true true (yp _) (by simp) (Or.inl rfl);have hs:(ze5 n cf).size=n+1:=by
  change (pdq (ltOf cf) (Array.ofFn (n:=n+1) id) 0 (n+1) (Lib.bitLen (n+1)) true true).size=n+1;rw [h1];simp
 refine ⟨hs,?_,?_⟩
 ·have e:∀ (arr:Array (Fin (n+1))) (m:Nat),arr.size=m→arr.extract 0 m=arr:=by
   rintro arr m rfl;exact Array.extract_size
  have e1:=e (ze5 n cf) (n+1) hs;have e2:=e (Array.ofFn (n:=n+1) id) (n+1) (by simp);change ((ze5 n cf).extract 0 (n+1)).toList.Perm _ at h2;rw [e1,e2] at h2;simpa using h2
 ·rw [List.pairwise_iff_getElem];intro i j hi hj hij;have hi':i<(ze5 n cf).size:=by simpa using hi
  have hj':j<(ze5 n cf).size:=by simpa using hj
  have:=h3 i j (yp _) hij (by omega);change ltOf cf (ze5 n cf)[j]! (ze5 n cf)[i]! = false at this;rw [getElem!_pos (ze5 n cf) j hj',getElem!_pos (ze5 n cf) i hi'] at this;simpa using this
theorem zok {α:Type}:∀ (l:List α) (n:Nat) (h:n=l.length),(List.ofFn (n:=n) id).map (λi=>l[i.val]'(by rw [← h];exact i.isLt))=l:=by
 intro l n h;subst h;apply List.ext_getElem
 ·simp
 ·intro i h1 h2;simp
theorem zjY {α:Type} {cf:α→α→Int} {l:List α} (h:swoB cf l=true):(zwD cf l).Perm l:=by
 cases l with
 | nil=>simp [zwD]
 | cons x xs=>
  have hO:SWO (ltOf λi j:Fin (xs.length+1)=>cf ((x::xs)[i.val]'(by simp)) ((x::xs)[j.val]'(by simp))):=zrQ h (λi:Fin (xs.length+1)=>(x::xs)[i.val]'(by simp)) (λi=>ym _);have h2:=(zir hO).2.1.map λi=>(x::xs)[i.val]'(by simp)
  rw [zok (x::xs) (xs.length+1) (by simp)] at h2;exact h2
theorem zoN {α:Type} {cf:α→α→Int} {l:List α} (h:swoB cf l=true):(zwD cf l).Pairwise λx y=>¬ cf y x<0:=by
 cases l with
 | nil=>simp [zwD]
 | cons x xs=>
  have hO:SWO (ltOf λi j:Fin (xs.length+1)=>cf ((x::xs)[i.val]'(by simp)) ((x::xs)[j.val]'(by simp))):=zrQ h (λi:Fin (xs.length+1)=>(x::xs)[i.val]'(by simp)) (λi=>ym _);have h2:=(zir hO).2.2;simp only [zwD,List.pairwise_map];refine h2.imp λ{a b} hab=>?_
  simpa [ltOf] using hab
theorem zm0 {α:Type} {f:α→α→Option Int} {l r:List α} (h:zxA f l=some r):(∀ x∈l,∀ y∈l,(f x y).isSome=true)∧swoB (λx y=>(f x y).getD 0) l=true∧l.length<4611686018427387904∧r=zwD (λx y=>(f x y).getD 0) l:=by
 unfold zxA at h;split at h
 ·rename_i hc;simp only [yd,yg,yq] at hc;cases h;exact ⟨λx hx y hy=>hc.1.1 x hx y hy,hc.1.2,hc.2,rfl⟩
 ·cases h
theorem zoO {α:Type} {f:α→α→Option Int} {l r:List α} (h:zxA f l=some r):r.length=l.length:=by
 obtain ⟨_,h1,_,rfl⟩:=zm0 h;exact (zjY h1).length_eq
end
end Go.Proofs.YtipkniadbkndfaaGreatDoor
