/- Part of the proof of one law of the seat. -/
import Derived.Test.YtipkniadbkndfaaGreatDoorFr01
import Derived.Laws.StructEq
import Derived.Laws.MakeOwn
import Derived.Maps.RangeRun
import Derived.MapKept
import Derived.RangeFuncRecord
import Derived.RangeFuncLeaves
import Derived.RangeFuncCalls
import Derived.TacticsIn
import Derived.Laws.CopyRow
import Derived.Lib.SliceRun
import Derived.Laws.Externs
import Derived.Lib.Bytealg
import Derived.WideKeyRuns
import Derived.ArgAppend
import Derived.OrdersIn
import Derived.RangeFuncIn
import Derived.Sort.Defs
import Derived.Lib.BitFns
import Derived.Sort.AssemblyPlain
import Derived.Shelf.SlSortCmp.Insertion
import Derived.Shelf.SlSortCmp.Whole1
import Derived.Shelf.SlSortCmp.NoneTotal
import Derived.Shelf.SlSortCmp.WholeK
import Derived.Shelf.Spec.SlicesGrow
set_option linter.unusedVariables false
set_option linter.unusedSectionVars false
set_option linter.unusedSimpArgs false
set_option maxRecDepth 100000
set_option maxHeartbeats 40000000
namespace Go.Proofs.YtipkniadbkndfaaGreatDoor
open Go Go.RowKit
abbrev ya:=@_root_.Option.bind_some
abbrev ye:=@_root_.Bool.false_eq_true
abbrev yf:=@_root_.decide_eq_true_eq
abbrev yi:=@_root_.List.getElem_mem
abbrev yj:=@_root_.Option.getD_some
abbrev yI:=@_root_.Bool.or_eq_true
abbrev yL:=@_root_.decide_eq_false_iff_not
abbrev yW:=@_root_.List.mem_cons_of_mem
abbrev ue:=@_root_.List.append_nil
abbrev ui:=@_root_.Bool.and_true
abbrev ut:=@_root_.List.any_eq_true
abbrev uB:=@_root_.Bool.and_eq_false_iff
abbrev uE:=@_root_.List.getElem?_cons_succ
abbrev uL:=@_root_.List.length_singleton
abbrev uO:=@_root_.List.mem_cons_self
abbrev uR:=@_root_.List.nodup_append
section
variable [ztC] [Drw]
def wk (k:IntKind) (x:Int):Int:=k.wrap x
def gmax (x y:Int):Int:=if y > x then y else x
def gmin (x y:Int):Int:=if y<x then y else x
theorem impT {b c} (h:(!b||c)=true) (hb:b=true):c=true:=by simp_all
theorem impF {b c} (h:(b||c)=true) (hb:b=false):c=true:=by simp_all
section
variable {P:Program} {o:Oper} {e:Operand→Option V} {H:List Blk}
theorem OpV.zv9 {d0} (d) (he:d0=d) (h:OpV P o e H (.d d0)):OpV P o e H (.d d):=he▸h
theorem OpV.nilS {α:Type} (k) (enc:α→D) (ho:o.op = .assign (.const (.slice none 0 0))):OpV P o e H (.d (.sl k (List.map enc []))):=
 ⟨λc g w f m _ b _=>by
  have a:(execOp f o).run P w = .ok (.value (.slice none 0 0)) w:=by simp [execOp,ho,b]
  rw [a];refine ⟨Fr.refl _ w,?_⟩;simp only [V.rep,D.rep];simp_all⟩
theorem OpV.max2 {x y tys a b k} (ho:o.op = .call { callee:=.builtin .max,args:=#[x,y],argTypes:=tys }) (hx:e x=some (.d (.val (.int k a)))) (hy:e y=some (.d (.val (.int k b)))):OpV P o e H (.d (.val (.int k (gmax a b)))):=
 .of_same λ_ _ w f _ c=>by
  have h:=zt.1 (c x (by grind [Op.operands,Call.operands]) _ hx);have g:=zt.1 (c y (by simp [ho,Op.operands,Call.operands]) _ hy);exact ⟨.int k (gmax a b),by simp [execOp,ho,resolve,invoke,builtin,Builtin.max_,Builtin.max2,h,g,gmax],zt.2 rfl⟩
theorem OpV.max3 {x y z tys a b c k} (ho:o.op = .call { callee:=.builtin .max,args:=#[x,y,z],argTypes:=tys }) (hx:e x=some (.d (.val (.int k a)))) (hy:e y=some (.d (.val (.int k b)))) (hz:e z=some (.d (.val (.int k c)))):OpV P o e H (.d (.val (.int k (gmax (gmax a b) c)))):=
 .of_same λ_ _ w f _ g=>by
  have i:=zt.1 (g x (by grind [Op.operands,Call.operands]) _ hx);have j:=zt.1 (g y (by simp [ho,Op.operands,Call.operands]) _ hy);have h:=zt.1 (g z (by simp [ho,Op.operands,Call.operands]) _ hz);exact ⟨.int k (gmax (gmax a b) c),by simp [execOp,ho,resolve,invoke,builtin,Builtin.max_,Builtin.max2,i,j,h,gmax],zt.2 rfl⟩
theorem OpV.min2 {x y tys a b k} (ho:o.op = .call { callee:=.builtin .min,args:=#[x,y],argTypes:=tys }) (hx:e x=some (.d (.val (.int k a)))) (hy:e y=some (.d (.val (.int k b)))):OpV P o e H (.d (.val (.int k (gmin a b)))):=
 .of_same λ_ _ w f _ c=>by
  have h:=zt.1 (c x (by grind [Op.operands,Call.operands]) _ hx);have g:=zt.1 (c y (by simp [ho,Op.operands,Call.operands]) _ hy);exact ⟨.int k (gmin a b),by simp [execOp,ho,resolve,invoke,builtin,Builtin.min_,Builtin.min2,h,g,gmin],zt.2 rfl⟩
end
theorem zvq.nil {P t k} (h:zbD P t=some (.slice none 0 0)):zvq P t (.sl k []):=⟨_,h,λ_ _=>by simp only [D.rep];simp_all⟩
theorem TriL.zxC {P} {C} {ops:Array Oper} {o:Oper} {rest} {Q} {T:List (Nat×V)} {H} {α:Type} {t el:TypeId} {len k bytes d:Nat} {parts:Array (Nat×Operand)} {enc:α→D} {ys:List D} (xs:List α)
  (hg:o.guard=none) (ho:o.op = .buildSlice t len parts) (hd:o.dst=some d) (hdn:Nat.blt d C.n=true) (hp:parts.toList.map (·.1)=List.range' 0 len) (he:zbK P t el k bytes=true) (hx:evs (ev T) (parts.toList.map (·.2))=some ys) (hle:D.Les ys (xs.map enc))
  (hk:∀ x,(enc x).kOK k=true) (hl:Nat.ble (len*k) 16777216=true)
  (kk:TriL P C ops rest Q ⟨(d,.vec H.length xs.length)::T,H++[.vec el k (xs.map enc)]⟩):TriL P C ops (o::rest) Q ⟨T,H⟩:=by
 obtain ⟨htu,hk0,inf,z,hinf,hz,hisz,hib,hzc⟩:=zby he;refine TriL.step hg (λbs a w hR=>?_) kk;have hreps:D.reps (Own C.A0 bs) w (xs.map enc) ((parts.toList.map (·.2)).map a.eval):=hle.reps (zeJ (H:=H) hx (λx _ y hy=>hR.ev hy));have hcells:=D.zvi hreps (k:=k) (by intro d hd;obtain ⟨x,_,rfl⟩:=y9.1 hd;exact hk x);have hlen:=congrArg List.length hp;simp only [yK,List.length_range',yF] at hlen;have hkk:∀ u∈(parts.toList.map (·.2)).map a.eval,u.cells.size=k:=by
  intro u hu;obtain ⟨i,hi,rfl⟩:=List.getElem_of_mem hu;have hl2:=D.ztS hreps;have hi':i<(xs.map enc).length:=by grind
  obtain ⟨v,hv,hr⟩:=D.zuk hreps i (xs.map enc)[i] (yw hi')
  grind [List.getElem?_eq_getElem,D.zvy]
 obtain ⟨cells,g1,g2⟩:=ze3 (P:=P) (w:=w) (k:=k) htu hinf hz hisz hzc hkk (by
  simp_all)
 have hzip:=zmd (β:=D) parts.toList 0 (by simp_all);have harr:(parts.map λ(i,x)=>(i,a.eval x))=((((parts.toList.map (·.2)).map a.eval).zipIdx 0).map λp=>(p.2,p.1)).toArray:=by
  apply Array.ext';rw [Array.toList_map]
  conv=>lhs;rw [hzip]
  simp only [List.zipIdx_map,List.map_map];rfl
 have hrun:(execOp a.eval o).run P w = .ok (.value (.slice (some ⟨w.heap.size,0,none⟩) len len)) (w.alloc (.cells cells el)):=by
  simp only [yK,yF,hlen] at g2;simp only [execOp,ho,Sem.run_bind,harr,g2,Result.andThen_ok,Sem.run_pure]
 have hxl:xs.length=len:=by have:=D.ztS hreps;grind
 have hcl:cells.size=len*k:=by
  grind [D.zuP,Array.length_toList,List.length_map]
 refine ⟨_,_,bs++[some w.heap.size],hrun,.inl ⟨_,rfl,?_⟩⟩;have hcap:len≤maxLen:=by
  have h1:=yq hl;have h2:len≤len*k:=Nat.le_mul_of_pos_right _ hk0
  grind [maxLen]
 have:=hR.newVec (el:=el) (k:=k) (n:=len) (cap:=len) (r:=d) (cells:=cells) (xs:=xs.map enc) (by simpa using hdn) (by grind) hcl (ym _) hcap (by
  rw [List.take_of_length_le (by grind),g1];grind)
 grind
theorem TriL.zwf {P} {C} {ops} {o:Oper} {rest} {Q} {T} {H} {α:Type} {t el} {len k bytes d:Nat} {parts} {enc} (xs:List α)
  (hg:o.guard=none) (ho:o.op = .buildSlice t len parts) (hd:o.dst=some d) (hdn:Nat.blt d C.n=true) (hp:parts.toList.map (·.1)=List.range' 0 len) (he:zbK P t el k bytes=true) (hx:evs (ev T) (parts.toList.map (·.2))=some (xs.map enc))
  (hk:∀ x,(enc x).kOK k=true) (hl:Nat.ble (len*k) 16777216=true)
  (kk:TriL P C ops rest Q ⟨(d,.vec H.length xs.length)::T,H++[.vec el k (xs.map enc)]⟩):TriL P C ops (o::rest) Q ⟨T,H⟩:=
 TriL.zxC xs hg ho hd hdn hp he hx (.refls _) hk hl kk
theorem R.zuw {C bs T H a w j c k t el cs} (h:R C bs ⟨T,H⟩ a w) (hj:H[j]? = some (.box t cs)) (hc:cs[c]? = some .nilS) :
  R C (bs++[none]) ⟨T,(H++[Blk.vec el k []]).set j (.box t (cs.set c (.vec H.length 0)))⟩ a w:=by
 have h1:R C (bs++[none]) ⟨T,H++[.vec el k []]⟩ a w:=h.zwk λ_ _ _=>by simp only [Blk.rep]
 have hlen:=h.len;simp only at hlen;have hjl:=(yc.1 hj).1;have hj':(H++[Blk.vec el k []])[j]? = some (.box t cs):=by rw [yh hjl];exact hj
 have hblk:=h1.blk j _ hj';simp only [Blk.rep] at hblk;obtain ⟨b,vs,hb,hh,hreps⟩:=hblk;have hset:(bs++[none]).set j (some b)=bs++[none]:=by
  refine y8 λq=>?_
  by_cases hij:j=q
  ·subst hij;rw [yy (yc.1 hb).1,hb]
  ·rw [yx hij]
 have hfr:Fr (λq=>some b=some q) w w:=Fr.refl _ w;have hWA:∀ q,some b=some q→Own C.A0 (bs++[none]) q:=λq hq=>.inr (by rw [← hq];exact yz hb)
 have hupd:=R.upd (y:=.box t (cs.set c (.vec H.length 0))) (c':=some b) h1 hj' hb (by simp [Compat]) hfr (.inl rfl) (by
  simp only [Blk.rep];refine ⟨b,vs,by simp_all,hh,?_⟩;have:=V.zu7 (x:=.box t cs) (y:=.box t (cs.set c (.vec H.length 0))) (c:=some b) (c':=some b) (A':=Own C.A0 ((bs++[none]).set j (some b))) hj' hb (by simp [Compat]) h1.own.apart hfr hWA (λq hq=>hq) (λq _ hq=>by simp_all) cs vs.toList hreps;generalize hG:(H++[Blk.vec el k []]).set j (.box t (cs.set c (.vec H.length 0)))=G at this ⊢;have hGv:G[H.length]? = some (.vec el k []):=by
   rw [← hG,yx (by omega),yP (ym _)];simp
  rw [hset] at this ⊢;clear hG;have key:∀ (cs:List V) (us:List Value) (c:Nat),V.reps (Own C.A0 (bs++[none])) w (bs++[none]) G cs us→cs[c]? = some .nilS→V.reps (Own C.A0 (bs++[none])) w (bs++[none]) G (cs.set c (.vec H.length 0)) us:=by
   intro cs
   induction cs with
   | nil=>simp_all
   | cons x cs ih=>
    intro us c hr hc;simp only [V.reps] at hr;obtain ⟨v,vs',rfl,h2,h3⟩:=hr;cases c with
    | zero=>
     simp only [yT,yn] at hc;subst hc;simp only [List.set_cons_zero,V.reps];refine ⟨v,vs',rfl,?_,h3⟩;have hv:=zt.1 h2;subst hv;simp only [V.rep,hGv];exact ⟨ym _,λ_=>⟨[],World.ownsRow_nil w 0 el k,by rw [← hlen];simp [Value.ownBlock],by simp [D.flat]⟩⟩
    | succ c=>
     simp only [List.set_cons_succ,V.reps]
     grind
  simp_all)
 simp_all
theorem TriL.zuw {P C ops rest Q T H} (j c k el) {t cs} (hj:H[j]? = some (.box t cs)) (hc:cs[c]? = some .nilS)
  (kk:TriL P C ops rest Q ⟨T,(H++[Blk.vec el k []]).set j (.box t (cs.set c (.vec H.length 0)))⟩):TriL P C ops rest Q ⟨T,H⟩:=⟨λ_ a w b=>kk.run _ a w (b.zuw hj hc)⟩
section
variable {P:Program} {n:Nat} {ops:Array Oper} {H:List Blk} {l:List Oper} {p:Oper} {rest:List Oper} {al:List Ev} {T:List (Nat×V)} {K:List Ev→List (Nat×V)→Prop}
theorem TriQ.jAnd (m) {b b2} {g r d:Nat} (hl:l.drop m=p::rest) (hp:p.op = .pick (.tmp g) (.tmp r) (.const (.bool false)))
  (hb:look g T=some (.d (.bool b))) (hs:zeT ops n g true (l.take m) []=true) (hrun:Runs ops p T) (hgp:∀ j w g',p.guard=some (j,w)→(ops[j]?).bind (·.dst)=some g'→g'∉dsts (l.take m)) (hd:p.dst=some d) (hn:Nat.blt d n=true)
  (h1:b=true→TriQ P n ops H (l.take m) al ((g,.d (.bool true))::T) (λ_ T'=>look r T'=some (.d (.bool b2))))
  (h2:TriQ P n ops H rest al ((d,.d (.bool (b&&b2)))::zwc (dsts (l.take m)) T) K):TriQ P n ops H l al T K:=
 TriQ.zxw m (want:=true) hl hp ⟨rfl,rfl⟩ hb hs hrun hgp hd hn h1 h2
theorem TriQ.jOr (m) {b b2} {g r d:Nat} (hl:l.drop m=p::rest) (hp:p.op = .pick (.tmp g) (.const (.bool true)) (.tmp r))
  (hb:look g T=some (.d (.bool b))) (hs:zeT ops n g false (l.take m) []=true) (hrun:Runs ops p T) (hgp:∀ j w g',p.guard=some (j,w)→(ops[j]?).bind (·.dst)=some g'→g'∉dsts (l.take m)) (hd:p.dst=some d) (hn:Nat.blt d n=true)
  (h1:b=false→TriQ P n ops H (l.take m) al ((g,.d (.bool false))::T) (λ_ T'=>look r T'=some (.d (.bool b2))))
  (h2:TriQ P n ops H rest al ((d,.d (.bool (b||b2)))::zwc (dsts (l.take m)) T) K):TriQ P n ops H l al T K:=
 TriQ.zxw m (want:=false) hl hp ⟨rfl,rfl⟩ hb hs hrun hgp hd hn h1 h2
end
end
section
variable [ztC] [Drw]
theorem cutS {α:Type} {l:List α} {lo hi:Int} {r:List α} (h:cut l lo hi=some r):∃ a b:Nat,lo=(a:Int)∧hi=(b:Int)∧a≤b∧b≤l.length∧r=(l.drop a).take (b - a):=by
 unfold cut at h;split at h
 ·rename_i h0;obtain ⟨h1,h2,h3⟩:=h0;obtain ⟨a,rfl⟩:=y7 h1;obtain ⟨b,rfl⟩:=y7 (Int.le_trans h1 h2);cases h;exact ⟨a,b,rfl,rfl,by omega,by omega,by simp⟩
 ·cases h
theorem zfr (l:List UInt8) (a b):(⟨l.toArray⟩:ByteArray).extract a b=⟨((l.drop a).take (b - a)).toArray⟩:=by
 apply ByteArray.ext;simp_all
section
variable {P:Program} {o:Oper} {e:Operand→Option V} {H:List Blk}
theorem OpV.zwK {t x y z} {l r} {lo hi} (ho:o.op = .slice t x (some y) (some z) none) (hx:e x=some (.d (.str l))) (hy:e y=some (.d (.int lo))) (hz:e z=some (.d (.int hi))) (ht:P.underlying t=some .string) (hr:cut l lo hi=some r):OpV P o e H (.d (.str r)):=by
 obtain ⟨a,b,rfl,rfl,k,h,rfl⟩:=cutS hr;refine .of_same λn p w f _ g=>?_
 have j:=zt.1 (g x (by grind [Op.operands]) _ hx);have i:=zt.1 (g y (by grind [Op.operands]) _ hy);have m:=zt.1 (g z (by grind [Op.operands]) _ hz);refine ⟨_,?_,zt.2 rfl⟩;have c:b≤(⟨l.toArray⟩:ByteArray).size:=h;simp [execOp,ho,j,i,m,run_sliceAt_string w t _ _ _ _ ht,Instr.slice,run_underlying ht,Instr.sliceBounds,Instr.sliceBound,asIntOf,c,k,zfr]
theorem OpV.zwJ {t x y} {l r} {lo} (ho:o.op = .slice t x (some y) none none) (hx:e x=some (.d (.str l))) (hy:e y=some (.d (.int lo))) (ht:P.underlying t=some .string) (hr:cut l lo (l.length:Int)=some r):OpV P o e H (.d (.str r)):=by
 obtain ⟨a,b,rfl,m,i,n,rfl⟩:=cutS hr;have c:l.length=b:=by omega
 subst c;refine .of_same λp q w f _ g=>?_
 have j:=zt.1 (g x (by grind [Op.operands]) _ hx);have k:=zt.1 (g y (by grind [Op.operands]) _ hy);refine ⟨_,?_,zt.2 rfl⟩;have h:(⟨l.toArray⟩:ByteArray).size=l.length:=rfl;simp [execOp,ho,j,k,run_sliceAt_string w t _ _ _ _ ht,Instr.slice,run_underlying ht,Instr.sliceBounds,Instr.sliceBound,asIntOf,h,i,zfr]
theorem OpV.zxX {t x z} {l r} {hi} (ho:o.op = .slice t x none (some z) none) (hx:e x=some (.d (.str l))) (hz:e z=some (.d (.int hi))) (ht:P.underlying t=some .string) (hr:cut l 0 hi=some r):OpV P o e H (.d (.str r)):=by
 obtain ⟨a,b,m,rfl,n,i,rfl⟩:=cutS hr;have c:a=0:=by omega
 subst c;refine .of_same λp q w f _ h=>?_
 have j:=zt.1 (h x (by grind [Op.operands]) _ hx);have k:=zt.1 (h z (by grind [Op.operands]) _ hz);refine ⟨_,?_,zt.2 rfl⟩;have g:b≤(⟨l.toArray⟩:ByteArray).size:=i;simp [execOp,ho,j,k,run_sliceAt_string w t _ _ _ _ ht,Instr.slice,run_underlying ht,Instr.sliceBounds,Instr.sliceBound,asIntOf,g,zfr]
end
end
section
variable [ztC] [Drw]
def eqV:Value→Value→Bool
 | .bool a,.bool b=>a==b
 | .int _ a,.int _ b=>a==b
 | .string a,.string b=>a.toList==b.toList
 | _,_=>false
def eqVs:List Value→List Value→Bool
 | [],[]=>true
 | x::xs,y::ys=>eqV x y&&eqVs xs ys
 | _,_=>false
def zqf:TypeDesc→Value→Bool
 | .bool,.bool _=>true
 | .int k,.int j _=>decide (j=k)
 | .string,.string _=>true
 | _,_=>false
def zaR:List TypeDesc→List Value→Bool
 | [],[]=>true
 | d::ds,v::vs=>zqf d v&&zaR ds vs
 | _,_=>false
def zob (rec:TypeId→Option (List TypeDesc)):List Field→Nat→Option (List TypeDesc)
 | [],_=>some []
 | f :: fs, off => if f.name = "_" ∨ f.offset ≠ off then none else match rec f.type with
  | none=>none
  | some l=>match zob rec fs (off+l.length) with
   | none=>none
   | some r=>some (l++r)
def zwL (P:Program):Nat→TypeId→Option (List TypeDesc)
 | 0,_=>none
 | d+1,t=>match P.underlying t with
  | some (.struct fs)=>if P.stoodInHeld t=true then none else match zob (zwL P d) fs.toList 0 with
   | none=>none
   | some l=>if (P.info? t).map (·.size)=some l.length then some l else none
  | some .bool=>some [.bool]
  | some (.int k)=>some [.int k]
  | some .string=>some [.string]
  | _=>none
theorem zcl:∀ {ls} {vs},zaR ls vs=true→vs.length=ls.length
 | [],[],_=>rfl
 | _::_,_::_,h=>by simp only [zaR,yd] at h;simp [zcl h.2]
 | [],_::_,h=>by grind [zaR]
 | _::_,[],h=>by grind [zaR]
theorem zew:∀ {l r} {vs},zaR (l++r) vs=true→zaR l (vs.take l.length)=true∧zaR r (vs.drop l.length)=true
 | [],r,vs,h=>by grind [zaR]
 | d::l,r,[],h=>by grind [zaR]
 | d::l,r,v::vs,h=>by
  simp only [uu,zaR,yd] at h;have:=zew (l:=l) h.2;simp only [yU,List.take_succ_cons,zaR];simp_all
theorem zkV:∀ (n) (xs ys),xs.length=ys.length→eqVs xs ys=(eqVs (xs.take n) (ys.take n)&&eqVs (xs.drop n) (ys.drop n))
 | 0,xs,ys,_=>by simp [eqVs]
 | n+1,[],[],_=>by simp_all
 | n+1,x::xs,y::ys,h=>by
  simp only [eqVs,List.take_succ_cons,List.drop_succ_cons,zkV n xs ys (by simp_all),Bool.and_assoc]
 | n+1,[],_::_,h=>by grind
 | n+1,_::_,[],h=>by grind
def zwx (P:Program) (t:TypeId) (cs:Array Value):Value:=match P.underlying t with | some (.struct _)=>.agg cs | _=>cs.getD 0 undef
def zrv (P:Program) (d:Nat):Prop:=∀ (t:TypeId) (ls:List TypeDesc),zwL P d t=some ls→∀ (m:Nat) (w:World) (xs ys:Array Value),d≤m→zaR ls xs.toList=true→zaR ls ys.toList=true →
 (Op.equalIn m t (zwx P t xs) (zwx P t ys)).run P w = .ok (eqVs xs.toList ys.toList) w
theorem zh6 {P d t} {l} (h:zwL P d t=some l) (w xs off) (hl:zaR l ((xs.toList.drop off).take l.length)=true) :
    (part t xs off).run P w = .ok (zwx P t (xs.extract off (off+l.length))) w:=by
  cases d with
  | zero=>grind [zwL]
  | succ d=>
    have e:=zcl hl;unfold zwL at h;split at h
    · rename_i j a
      split at h
      · cases h
      · split at h
        · cases h
        · split at h
          · rename_i b
            cases h;cases c:P.info? t with
            | none=>simp_all
            | some i=>
              simp only [c,yR,yn] at b;simp [part,isAgg,run_underlying a,sizeOf,typeInfo,c,b,zwx,a]
          grind
    all_goals first
      | (cases h;done)
      | (rename_i a
         cases h;have g:off<xs.size:=by grind
         have f :=uk g;simp [part,isAgg,run_underlying a,f,zwx]
         grind)
theorem zfk {P d m} (ih:zrv P d) (hm:d≤m) (xs ys):∀ (fs) (off) (ls) (w),zob (zwL P d) fs off=some ls →
  zaR ls (xs.toList.drop off)=true→zaR ls (ys.toList.drop off)=true→(Op.eqFields m xs ys fs).run P w = .ok (eqVs (xs.toList.drop off) (ys.toList.drop off)) w
 | [],off,ls,w,h,c,b=>by
  cases h;have y:=zcl c;have o:=zcl b;rw [List.length_eq_zero_iff.1 y,List.length_eq_zero_iff.1 o];simp [Op.eqFields,eqVs]
 | f::fs,off,ls,w,h,c,b=>by
  simp only [zob] at h;split at h
  ·cases h
  ·rename_i a;have x : f.name ≠ "_" := fun e => a (.inl e)
   have n :=Classical.byContradiction λe=>a (.inr e)
   split at h
   ·cases h
   ·rename_i l g;split at h
    ·cases h
    ·rename_i r p;cases h;obtain ⟨k,C⟩:=zew c;obtain ⟨s,E⟩:=zew b;have t:=zh6 g w xs off k;have u:=zh6 g w ys off s;have v:(xs.extract off (off+l.length)).toList=(xs.toList.drop off).take l.length:=by simp_all
     have q:(ys.extract off (off+l.length)).toList=(ys.toList.drop off).take l.length:=by simp_all
     have j:=ih f.type l g m w (xs.extract off (off+l.length)) (ys.extract off (off+l.length)) hm (by simp_all) (by simp_all);rw [v,q] at j;have i:=zfk ih hm xs ys fs (off+l.length) r w p (by simp_all) (by simp_all);have z:=zcl c;have A:=zcl b;rw [zkV l.length _ _ (by simp_all),List.drop_drop,List.drop_drop];simp only [Op.eqFields,x,ne_eq,n,Sem.run_bind,t,u,j,Result.andThen_ok,Sem.run_ite];cases B:eqVs (List.take l.length (List.drop off xs.toList)) (List.take l.length (List.drop off ys.toList))
     ·simp
     simp_all
theorem zrB {P}:∀ d,zrv P d
  | 0=>λt j h=>by grind [zwL]
  | d + 1 => fun t j h m w b c u e a => by
    obtain ⟨m,rfl⟩:∃ q,m=q+1:=⟨m - 1,by omega⟩
    unfold zwL at h;split at h
    · rename_i k n
      split at h
      · cases h
      · split at h
        · cases h
        · rename_i s f
          split at h
          · cases h
            have r:P.fieldsOf t=k:=by grind [Program.fieldsOf]
            have o:∀ g,zwx P t g = .agg g:=λg=>by grind [zwx]
            rw [o,o,run_equalIn_struct w m t b c (by simp_all) (by simp_all),r];have:=zfk (zrB d) (by omega:d≤m) b c k.toList 0 j w f (by simp_all) (by simp_all);simp_all
          grind
    all_goals first
      | (cases h;done)
      | (rename_i n
         cases h;obtain ⟨xl,rfl⟩:∃ l:List Value,b=l.toArray:=⟨b.toList,by simp⟩
         obtain ⟨yl,rfl⟩:∃ l:List Value,c=l.toArray:=⟨c.toList,by simp⟩
         cases xl with
         | nil=>grind [zaR]
         | cons x xl=>
           cases yl with
           | nil=>grind [zaR]
           | cons y yl=>
             have p:=zcl e;have i:=zcl a;simp at p i;subst p;subst i;simp only [zaR,ui] at e a;cases x <;> simp only [zqf,yf,ye] at e
             cases y <;> simp only [zqf,yf,ye] at a
             try subst e
             try subst a
             simp [zwx,n,eqVs,eqV,run_equalIn_bool' w m t _ _ ,run_equalIn_int w m t,run_equalIn_string w m t])
section
variable {P:Program} {o:Oper} {e:Operand→Option V} {H:List Blk}
theorem zla {A w}:∀ {l vs},D.reps A w (l.map .val) vs→vs=l
 | [],vs,h=>by grind [D.reps]
 | v::l,vs,h=>by
  obtain ⟨u,c,rfl,b,a⟩:=h;rw [b,zla a]
def zhp (vs:List Value):D:=.agg (vs.map .val)
theorem zeC {A w vs v} (h:(zhp vs).rep A w v):v = .agg vs.toArray:=by
 obtain ⟨b,rfl,a⟩:=h;rw [← zla a]
structure zvg (P:Program) (t:TypeId) (ls:List TypeDesc):Prop where
 flat:zwL P 20 t=some ls
 str:(match P.underlying t with | some (.struct _)=>true | _=>false)=true
 grd:P.eqGuardType P.depth t=false
theorem zvg.run {t} {ls} (h:zvg P t ls) {xs ys} (hx:zaR ls xs=true) (hy:zaR ls ys=true) (w) :
  (Op.equalIn 10000 t (.agg xs.toArray) (.agg ys.toArray)).run P w = .ok (eqVs xs ys) w:=by
 have:=zrB 20 t ls h.flat 10000 w xs.toArray ys.toArray (by decide) (by simp_all) (by simp_all);have b:∀ a,zwx P t a = .agg a:=λa=>by
  have:=h.str
  grind [zwx]
 simp_all
theorem OpV.seql {t u x y} {ls} {a b xs ys r} (ho:o.op = .binOp .eql t x y u) (ht:zvg P t ls) (hx:e x=some (.d a)) (hy:e y=some (.d b)) (ha:a=zhp xs) (hb:b=zhp ys)
  (lx:zaR ls xs=true) (ly:zaR ls ys=true) (hr:eqVs xs ys=r):OpV P o e H (.d (.bool r)):=
 .of_same λ_ _ w f _ h=>by
  subst ha;subst hb;have g:=h x (by grind [Op.operands]) _ hx;have c:=h y (by grind [Op.operands]) _ hy;have g:=zeC g;have c:=zeC c;exact ⟨.bool r,by simp only [execOp,ho,g,c,run_eqGuard_agg w _ t x y _ _ ht.grd,run_eql_struct,ht.run lx ly,hr,Sem.run_bind,Sem.run_pure,Result.andThen_ok],zt.2 rfl⟩
theorem OpV.sneq {t u x y} {ls} {a b xs ys r} (ho:o.op = .binOp .neq t x y u) (ht:zvg P t ls) (hx:e x=some (.d a)) (hy:e y=some (.d b)) (ha:a=zhp xs) (hb:b=zhp ys)
  (lx:zaR ls xs=true) (ly:zaR ls ys=true) (hr:eqVs xs ys=r):OpV P o e H (.d (.bool (!r))):=
 .of_same λ_ _ w f _ h=>by
  subst ha;subst hb;have g:=h x (by grind [Op.operands]) _ hx;have c:=h y (by grind [Op.operands]) _ hy;have g:=zeC g;have c:=zeC c;exact ⟨.bool (!r),by simp only [execOp,ho,g,c,run_eqGuard_agg w _ t x y _ _ ht.grd,run_neq_struct,ht.run lx ly,hr,Sem.run_bind,Sem.run_pure,Result.andThen_ok],zt.2 rfl⟩
theorem OpV.callLe {f args tys xs xs' y} (ho:o.op = .call { callee:=.value (.func f),args:=args,argTypes:=tys }) (hc:ztF P f=true)
  (hx:evs e args.toList=some xs) (hl:D.Les xs xs') (hp:Pure P f xs' y):OpV P o e H (.d y):=
 .call ho hc hx ⟨λA w b c g a=>hp.run A w b c g (hl.reps a)⟩
end
end
section
variable [ztC] [Drw]
theorem zkA {z k} (hz:z.size=k) (hk:0<k) (n):(madeCells z ((n+1)*k)).toList=z.toList++(madeCells z (n*k)).toList:=by
 unfold madeCells;rw [Array.toList_map,Array.toList_map,Array.toList_range,Array.toList_range,uw,Nat.add_comm,List.range_add,ul,List.map_map];congr 1
 ·apply List.ext_getElem
  ·grind
  grind [Nat.mod_eq_of_lt]
 simp_all
theorem zmv {A w k z d} (hr:d.rep A w z) (hz:z.cells.size=k) (hk:0<k):∀ n,D.flat A w k (List.replicate n d) (madeCells z.cells (n*k)).toList
 | 0=>by simp [D.flat,madeCells]
 | n+1=>by
  rw [zkA hz hk,List.replicate_succ];exact ⟨z,_,rfl,hz,hr,zmv hr hz hk n⟩
theorem mkS {α} {b} {n} {x} {r:List α} (h:mkl b n x=some r):∃ m:Nat,n=(m:Int)∧m*b≤140737488355328∧r=List.replicate m x:=by
 unfold mkl at h;grind
theorem zur {i} {ids:List Nat} (h:ids.contains i=true):i∈ids:=by simp_all
theorem TriL.zvO {P:Program} {C:Ctx} {ops:Array Oper} {o:Oper} {rest} {Q} {T} {H} {α} {t el} {k bytes d:Nat} {x y} {enc} {m} {z} {r:List α}
  (hg:o.guard=none) (ho:o.op = .makeSlice t x y) (hd:o.dst=some d) (hdn:Nat.blt d C.n=true) (he:zbK P t el k bytes=true) (hb:Nat.blt 0 bytes=true) (hx:ev T x=some (.d (.int m))) (hy:ev T y=some (.d (.int m))) (hz:zvq P el (enc z)) (hm:mkl bytes m z=some r)
  (kk:TriL P C ops rest Q ⟨(d,.vec H.length r.length)::T,H++[.vec el k (r.map enc)]⟩):TriL P C ops (o::rest) Q ⟨T,H⟩:=by
 obtain ⟨f,s,g,p,b,h,l,A,G⟩:=zby he;obtain ⟨n,rfl,q,rfl⟩:=mkS hm;obtain ⟨e,u,v⟩:=hz.out;have:e=p:=by grind [zbD]
 subst this;have j:0<bytes:=by simp_all
 have B :=yH (Nat.le_mul_of_pos_right n j) q;refine TriL.step hg (λE a w i=>?_) kk;have I:=zt.1 (i.ev hx);have J:=zt.1 (i.ev hy);have F:=run_make (P:=P) w t el g e f b h .i64 .i64 n n (by omega) (Int.le_refl _) (by grind) (by omega);have c:(execOp a.eval o).run P w = .ok (.value (.slice (some ⟨w.heap.size,0,none⟩) n n)) (w.alloc (.cells (madeCells e.cells (n*k)) el)):=by
  grind [execOp,Sem.run_bind,Result.andThen_ok,Sem.run_pure,Int.toNat_natCast]
 refine ⟨_,_,E++[some w.heap.size],c,.inl ⟨_,rfl,?_⟩⟩;have:=i.newVec (el:=el) (k:=k) (n:=n) (cap:=n) (r:=d) (cells:=madeCells e.cells (n*k)) (xs:=List.replicate n (enc z)) (by simp_all) (by simp) (size_madeCells _ _) (ym _) (by grind [maxLen]) (by
  rw [List.take_of_length_le (by rw [yF,size_madeCells];simp_all)];grind [zmv])
 simp_all
theorem za7 {α} {l} {i} {x} {r:List α} (h:sto l i x=some r):l.length=r.length:=by
 obtain ⟨n,_,_,rfl⟩:=stoS h;simp
theorem TriL.zuv {P C ops rest Q T H} (t) {i n m} (ht:look t T=some (.vec i n)) (e:n=m)
  (k:TriL P C ops rest Q ⟨(t,.vec i m)::T,H⟩):TriL P C ops rest Q ⟨T,H⟩:=by
 subst e;exact ⟨λ_ a w b=>k.run _ a w (b.know (b.tmp t _ ht).1 (b.tmp t _ ht).2)⟩
theorem TriL.zvo {P C ops rest Q T H} (j c) {i n m t cs} (hj:H[j]? = some (.box t cs)) (hc:cs[c]? = some (.vec i n)) (e:n=m)
  (k:TriL P C ops rest Q ⟨T,H.set j (.box t (cs.set c (.vec i m)))⟩):TriL P C ops rest Q ⟨T,H⟩:=by
 grind [List.set_getElem_self]
end
section
variable [ztC] [Drw]
def zmw (o:Oper):Bool:=match o.guard,o.dst,o.op with
 | none,some _,.move _=>true
 | none,some _,.binOp .quo _ (.tmp _) (.tmp _) _=>true
 | none,some _,.binOp .rem _ (.tmp _) (.tmp _) _=>true
 | _,_,_=>false
def zhr (o:Oper) (T:List (Nat×V)):Prop:=match o.op with
 | .binOp _ _ (.tmp x) (.tmp y) _=>∃ a b:Int,look x T=some (.d (.int a))∧look y T=some (.d (.int b))
 | _=>True
theorem zpa {P o} (h:zmw o=true) {T} (hi:zhr o T) {f} (hf:∀ x a,Operand.tmp x∈o.op.operands→look x T=some (.d (.int a))→f (.tmp x) = .int .i64 a) {w} {K} (hr:ze9 P K ((execOp f o).run P w)) :
  ∃ u,K u w∧∀ w',(execOp f o).run P w' = .ok (.value u) w':=by
 unfold zmw at h;split at h
 ·rename_i x _ _ c;have:∀ w',(execOp f o).run P w' = .ok (.value (f x)) w':=λw'=>by simp [execOp,c]
  rw [this] at hr;exact ⟨_,hr,this⟩
 ·rename_i t x y u _ _ c;simp only [zhr,c] at hi;obtain ⟨a,b,j,k⟩:=hi;have i:=hf x a (by grind [Op.operands]) j;have g:=hf y b (by grind [Op.operands]) k;by_cases e:b=0
  ·revert hr;simp [execOp,c,i,g,eqGuard_at_int,binOp,Op.intDiv,e,ze9,runtimePanic]
  ·have:∀ w',(execOp f o).run P w' = .ok (.value (.int .i64 (w64 (a.tdiv b)))) w':=λw'=>by
    simp [execOp,c,i,g,eqGuard_at_int,binOp,Op.intDiv,e,w64]
   rw [this] at hr;exact ⟨_,hr,this⟩
 ·rename_i t x y u _ _ c;simp only [zhr,c] at hi;obtain ⟨a,b,j,k⟩:=hi;have i:=hf x a (by grind [Op.operands]) j;have g:=hf y b (by grind [Op.operands]) k;by_cases e:b=0
  ·revert hr;simp [execOp,c,i,g,eqGuard_at_int,binOp,Op.intDiv,e,ze9,runtimePanic]
  ·have:∀ w',(execOp f o).run P w' = .ok (.value (.int .i64 (a.tmod b))) w':=λw'=>by
    simp [execOp,c,i,g,eqGuard_at_int,binOp,Op.intDiv,e]
   rw [this] at hr;exact ⟨_,hr,this⟩
 grind
def zlM (o:Oper):Bool:=match o.op with | .select _ _=>true | _=>false
def zfw (l:List Oper) (n:Nat):List Nat→List Nat→Bool
 | [],_=>true
 | i::F,dn=>(match l[i]? with
  | none=>false
  | some oi=>zmw oi&&decide (i<n)&&!dn.contains i&&oi.after.toList.all (λe=>!Region.binds .any e||dn.contains e.on) &&
   (List.range l.length).all (λj=>j==i||dn.contains j||(match l[j]? with
    | none=>false
    | some oj=>oj.after.toList.any (λe=>Region.binds .any e&&e.on==i)||oi.apart l.toArray oj)) &&
   (match oi.op with
    | .binOp _ _ (.tmp x) (.tmp y) _=>(List.range l.length).all λj=>decide (j<i)||(match l[j]? with | none=>true | some oj=>oj.dst != some x&&oj.dst != some y)
    | _=>true))&&zfw l n F (i::dn)
def zcr (Q:Exit→St→Prop):Exit→St→Prop
 | .panic _,_=>False
 | e,s=>Q e s
structure First (l:List Oper) (n:Nat) (i:Nat) (oi:Oper) (dn:List Nat):Prop where
 at_:l[i]? = some oi
 free:zmw oi=true
 lt:i<n
 new:i∉dn
 after:∀ e∈oi.after.toList,Region.binds .any e=true→e.on∈dn
 apart:∀ j oj,l[j]? = some oj→j≠i→j∉dn→(∀ e∈oj.after.toList,Region.binds .any e=true→e.on≠i)→oi.apart l.toArray oj=true
 ops:∀ op t x y u,oi.op = .binOp op t (.tmp x) (.tmp y) u→∀ j oj,l[j]? = some oj→¬ j<i→oj.dst≠some x∧oj.dst≠some y
theorem zhB {l n i F dn} (h:zfw l n (i::F) dn=true):(∃ oi,First l n i oi dn)∧zfw l n F (i::dn)=true:=by
 simp only [zfw,yd] at h;refine ⟨?_,h.2⟩;have h:=h.1;cases ho:l[i]? with
 | none=>simp [ho] at h
 | some oi=>
  simp only [ho,yd,yf,yp] at h;obtain ⟨⟨⟨⟨⟨o,h2⟩,A⟩,B⟩,h5⟩,h6⟩:=h;refine ⟨oi,ho,o,h2,by simp_all,λe he C=>?_,λj oj hj hji hjd k=>?_,λz t x y u s j oj hj hlt=>?_⟩
  ·grind
  ·have:=h5 j (yV.2 (yc.1 hj).1);simp only [hj,yI,beq_iff_eq,ut,yd] at this;rcases this with (h | h) | ⟨e,he,v,h8⟩ | h
   ·exact absurd h hji
   ·exact absurd (by simpa using h) hjd
   ·exact absurd h8 (k e he v)
   ·exact h
  grind
theorem zsV {l T0 ps M L0 n} (ok:zwG l n M L0) (hfst:∀ (i:Nat) (o) (v),ps[i]? = some (o,v)→l[i]? = some o) {listed} (hsz:listed.size=l.length) (hcl:zvR l M listed) {i o v}
  (hpi:ps[i]? = some (o,v)) (hil:listed.getD i false=false) (hbef:∀ k,(M.getD i 0).testBit k=true→listed.getD k false=true) (t) :
  look t (TL T0 ps (λk=>(listed.setIfInBounds i true).getD k false) ps.length)=look t (putT (TL T0 ps (λk=>listed.getD k false) ps.length) o.dst v):=by
 have g:=hfst i o v hpi;have w:=(yc.1 g).1;have r:=(yc.1 hpi).1;rw [zdX];by_cases j:o.dst=some t
 ·have x:look t (TL T0 ps (λk=>(listed.setIfInBounds i true).getD k false) ps.length)=look t (TL T0 ps (λk=>decide (k<i+1)) ps.length):=by
   refine zec (λk b s f e=>?_) ps.length;have c:=hfst k b s f;rw [zaC _ _ _ _ (by omega)];rcases Nat.lt_trichotomy k i with a | a | a
   ·simp only [show k<i+1 by omega,decide_true];rcases ok.pair k i b _ a c g with u | d
    ·simp_all
    ·exact absurd j ((Oper.apart_spec d).2.1 t e)
   ·simp_all
   ·rw [if_neg (by omega)];simp only [show ¬ k<i+1 by omega];cases u:listed.getD k false with
    | false=>rfl
    | true=>
     rcases ok.pair i k _ b a g c with h | d
     ·have:=hcl k (by grind) u i h;simp_all
     grind [Oper.apart_spec]
  rw [x];have q:=zfa (T:=T0) (ps:=ps) (p:=λk=>decide (k<i+1)) (m:=i+1) (λk f=>by simp_all) (ps.length - (i+1));rw [show i+1+(ps.length - (i+1))=ps.length by omega] at q;rw [q];simp only [TL,hpi,Nat.lt_succ_self,decide_true,if_true,zdX,j]
 ·rw [if_neg j];refine zec (λk b s f e=>?_) ps.length;rw [zaC _ _ _ _ (by omega)]
  grind
theorem zjc {P C bs H T0 Q ps M L0 l n} (hQ:∀ c s,¬ Q (.panic c) s) (hsel:l.all (λo=>!zlM o)=true)
  (hfst:∀ (i:Nat) (o:Oper) (v:V),ps[i]? = some (o,v)→l[i]? = some o) (hpn:ps.length=n) (ok:zwG l n M L0) (hy:∀ (i:Nat) (o:Oper) (v:V),ps[i]? = some (o,v)→YV P C.n l.toArray H o (TL T0 ps (λk=>decide (k<i)) ps.length) v):∀ (F dn:List Nat),zfw l n F dn=true →
  (∀ i∈F,∀ o,l[i]? = some o→zhr o (TL T0 ps (λ_=>true) ps.length)) →
  ∀ (listed:Array Bool) (a:Act) (w:World) (fuel:Nat),listed.size=l.length→(∀ j,j<l.length→(listed.getD j false=true↔j∈dn))→zvR l M listed→R C bs ⟨TL T0 ps (λk=>listed.getD k false) ps.length,H⟩ a w →
  (∀ (listed':Array Bool) (a':Act),listed'.size=l.length→(∀ j,j<l.length→(listed'.getD j false=true↔j∈F.reverse++dn))→zvR l M listed'→R C bs ⟨TL T0 ps (λk=>listed'.getD k false) ps.length,H⟩ a' w→wpAny P .any l.toArray (QR C Q) fuel listed' a' w) →
  wpAny P .any l.toArray (QR C Q) (fuel+F.length) listed a w
 | [],dn,_,_,listed,a,w,fuel,hsz,hdn,hcl,hR,hk=>hk listed a hsz (by simpa using hdn) hcl hR
 | i::F,dn,hF,hI,listed,a,w,fuel,hsz,hdn,hcl,hR,hk=>by
  obtain ⟨⟨oi,f⟩,hF'⟩:=zhB hF;have hilt:=(yc.1 f.at_).1;have hips:i<ps.length:=by rw [hpn];exact f.lt
  have hpi:ps[i]? = some (ps[i].1,ps[i].2):=yw hips;have hoi:oi=ps[i].1:=by have:=hfst i _ _ hpi;rw [f.at_] at this;simpa using this
  have hil:listed.getD i false=false:=by
   cases hb:listed.getD i false with
   | false=>rfl
   | true=>exact absurd ((hdn i hilt).1 hb) f.new
  have hedges:∀ e∈oi.after.toList,Region.binds .any e=true→listed.getD e.on false=true:=λe he hb=>by
   have:=ok.back i oi f.at_ e he hb;exact (hdn e.on (by omega)).2 (f.after e he hb)
  have hbef:=zgh ok hcl f.at_ hedges;have hready:i∈Region.ready .any l.toArray listed:=zf9.2 ⟨oi,f.at_,by rw [zcH _ _ (by omega)];exact hil,hedges⟩;have hlook:∀ t∈oi.looksAt l.toArray,look t (TL T0 ps (λk=>decide (k<i)) ps.length)=look t (TL T0 ps (λk=>listed.getD k false) ps.length):=by
   intro t ht;refine zec (λk ok' vk hk hd=>?_) ps.length;have hlk:=hfst k ok' vk hk;rcases Nat.lt_trichotomy k i with hki | hki | hki
   ·simp only [hki,decide_true];rcases ok.pair k i ok' _ hki hlk f.at_ with hb | hap
    ·exact (hbef k hb).symm
    ·exact absurd ht ((Oper.apart_spec hap).1 t hd)
   ·subst hki;simp only [Nat.lt_irrefl,decide_false];exact hil.symm
   ·simp only [show ¬ k<i by omega,decide_false];cases hb:listed.getD k false with
    | false=>rfl
    | true=>
     exfalso;rcases ok.pair i k _ ok' hki f.at_ hlk with hb2 | hap
     ·have:=hcl k (by have:=(yc.1 hlk).1;omega) hb i hb2;rw [hil] at this;cases this
     ·exact (Oper.apart_spec hap).2.2 t hd ht
  have hyi:=(hy i _ _ hpi).congr (by rw [← hoi];exact hlook);rw [← hoi] at hyi;obtain ⟨hdst,hyi⟩:=hyi;have hfree:=f.free;have hgd:oi.guard=none∧zah oi=false:=by
   unfold zmw at hfree;split at hfree
   ·rename_i hg _ ho;exact ⟨hg,by simp [zah,ho]⟩
   ·rename_i hg _ ho;exact ⟨hg,by simp [zah,ho]⟩
   ·rename_i hg _ ho;exact ⟨hg,by simp [zah,ho]⟩
   ·cases hfree
  have hop:OpV P oi (ev (TL T0 ps (λk=>listed.getD k false) ps.length)) H ps[i].2:=by
   rcases hyi with ⟨_,_,hv⟩ | ⟨_,⟨t,r,q,_⟩,_⟩ | ⟨_,j,want,g,hg,_⟩ | ⟨_,t,r,y,d,k,q,_⟩
   ·exact hv
   ·simp [zah,q] at hgd
   ·rw [hgd.1] at hg;cases hg
   ·simp [zah,q] at hgd
  have hints:zhr oi (TL T0 ps (λk=>listed.getD k false) ps.length):=by
   have h0:=hI i (by simp) oi f.at_;unfold zhr at h0 ⊢;split
   ·rename_i op t x y u hq;simp only [hq] at h0;have hsame:∀ z,(z=x∨z=y)→look z (TL T0 ps (λ_=>true) ps.length)=look z (TL T0 ps (λk=>listed.getD k false) ps.length):=by
     intro z hz;have hz':z∈oi.looksAt l.toArray:=by
      simp only [Oper.looksAt,yu,List.mem_filterMap];left;rcases hz with rfl | rfl
      ·exact ⟨.tmp z,by simp [hq,Op.operands],rfl⟩
      ·exact ⟨.tmp z,by simp [hq,Op.operands],rfl⟩
     rw [← hlook z hz'];refine zec (λk ok' vk hk hd=>?_) ps.length;have hlk:=hfst k ok' vk hk;by_cases hki:k<i
     ·simp [hki]
     ·exfalso;have:=f.ops op t x y u hq k ok' hlk hki;rcases hz with rfl | rfl
      ·exact this.1 hd
      ·exact this.2 hd
    rw [← hsame x (.inl rfl),← hsame y (.inr rfl)];exact h0
   ·trivial
  have hrun:=hop.run C.A0 bs w a.eval hR.mem (λx _ y hx=>hR.ev hx) (λ_=>rfl) (λ_=>rfl);obtain ⟨u,⟨_,hu⟩,hall⟩:=zpa hfree hints (f:=a.eval) (λx b _ hx=>by
   have:=zt.1 (hR.ev (x:=.tmp x) (by simpa [ev] using hx));exact this) hrun
  have hyields:Yields P l.toArray oi u a:=.inl ⟨by simp [Region.wanted,hgd.1],hall⟩;have hselA:∀ (j:Nat) (o:Oper) cs b,l.toArray[j]? = some o→o.op≠.select cs b:=λj o cs b hj hs=>by
   have:=(yp.1 hsel) o (by simp at hj;exact yz hj);simp [zlM,hs] at this
  rw [show fuel+(i::F).length=fuel+F.length+1 by simp;omega];refine wpAny_first (i:=i) (oi:=oi) (v:=u) (by simpa using f.at_) hselA (λc a w h=>h.elim (λ⟨bs',s',hq,_⟩=>absurd hq (hQ c s')) (λh=>(by cases h.1))) (fuel+F.length) listed a w (λj oj hj hji hjl hw=>?_) hready hyields ?_
  ·simp only [List.getElem?_toArray] at hj;have hjlt:=(yc.1 hj).1;rw [zcH _ _ (by omega)] at hjl;exact f.apart j oj hj hji (λh=>by rw [(hdn j hjlt).2 h] at hjl;cases hjl) (λe he hb=>hw e (by simpa using he) hb)
  ·have hget:∀ k,(listed.setIfInBounds i true).getD k false=if k=i then true else listed.getD k false:=λk=>zaC _ _ _ _ (by omega)
   refine zjc hQ hsel hfst hpn ok hy F (i::dn) hF' (λj hj=>hI j (by simp [hj])) (listed.setIfInBounds i true) _ w fuel (by simpa using hsz) (λj hj=>?_) ?_ ?_ (λl' a' q1 q2 q3 q4=>hk l' a' q1 (λj hj=>by rw [q2 j hj];simp [or_assoc,or_left_comm]) q3 q4)
   ·rw [hget];split
    ·rename_i e;simp [e]
    ·rename_i e;rw [hdn j hj];simp [e]
   ·intro j hj hjl i' hi';rw [hget] at hjl ⊢;split
    ·rfl
    ·split at hjl <;> rename_i hji
     ·subst hji;exact hbef i' hi'
     ·exact hcl j hj hjl i' hi'
   ·have hput:=hR.put (Fr.refl _ _) oi.dst hdst hu;rw [St.put_eq] at hput;refine hput.weaken λt v hv=>?_
    rw [← hv,zsV ok hfst hsz hcl hpi hil hbef t,← hoi]
inductive Ints (l:List Oper) (T:List (Nat×V)):List Nat→Prop
 | nil:Ints l T []
 | move {i:Nat} {F:List Nat} {o:Oper} {x:Operand}:l[i]? = some o→o.op = .move x→Ints l T F→Ints l T (i::F)
 | ints {i:Nat} {F:List Nat} {o:Oper} {op:BinOp} {t u:TypeId} {x y:Tmp} {a b:Int}:l[i]? = some o→o.op = .binOp op t (.tmp x) (.tmp y) u→look x T=some (.d (.int a))→look y T=some (.d (.int b))→Ints l T F→Ints l T (i::F)
theorem Ints.all {l T T1 n} (hw:Wk n T1 T):∀ {F},Ints l T F→∀ i∈F,∀ o,l[i]? = some o→zhr o T1
 | _,.nil,i,a,_,_=>by grind
 | _,.move e d c,i,a,o,b=>by
  rcases yG.1 a with rfl | a
  ·grind [zhr]
  ·exact c.all hw i a o b
 | _,.ints e d c g f,i,a,o,b=>by
  rcases yG.1 a with rfl | a
  ·rw [e] at b;cases b;simp only [zhr,d];exact ⟨_,_,(hw _ _ c).resolve_right (λh=>by grind),(hw _ _ g).resolve_right (λh=>by grind)⟩
  ·exact f.all hw i a o b
theorem Tri.drawF {P C Q s id l} (n F) (hm:P.follows .mixedOrders=true) (hok:zqk l n F=true) (hf:(zfw l n F []&&l.all (λo=>!zlM o)&&(l.take n).all (λo=>!zah o)&&decide (n≤l.length)&&zfq (l.take n)&&zef (l.take n)&&((List.range n).filter (λi=>!F.contains i)).length+F.length==n)=true)
  (h:TriQ P C.n l.toArray s.H (l.take n) [] s.T (λ_ T=>Ints l T F∧TriL P C l.toArray (l.drop n) (zcr Q) ⟨T,s.H⟩)):Tri P C (.region id l.toArray true) Q s:=by
 simp only [yd,yf,beq_iff_eq] at hf;obtain ⟨⟨⟨⟨⟨⟨hf1,hf2⟩,hf3⟩,hn⟩,ha1⟩,ha2⟩,hcount⟩:=hf;refine Tri.mono (Q:=zcr Q) ⟨λbs a w hR=>?_⟩ (λe s hq=>by cases e <;> first | exact hq.elim | exact hq);obtain ⟨M,ok⟩:=zk8 hok;obtain ⟨qs,hq1,hq2,T',⟨hI,hK⟩,hq3⟩:=ztM.path (T0:=s.T) (l.take n) [] s.T [] (λ_=>rfl) h.run;simp only [yO,uj,uh] at hq2 hq3 hK hI;have hlen:qs.length=n:=by have:=congrArg List.length hq1;simp at this;omega
 have hl:l=qs.map (·.1)++l.drop n:=by rw [hq1,uz]
 have hfst:∀ (i:Nat) (o:Oper) (v:V),qs[i]? = some (o,v)→l[i]? = some o:=λi o v hi=>by
  rw [hl,yh (by simpa using (yc.1 hi).1)];simp [hi]
 have hnos:∀ o∈qs.map (·.1),zah o=false:=λo ho=>by rw [hq1] at ho;simpa using (yp.1 hf3) o ho
 have hevs:zu0 qs=[]:=by
  unfold zu0;rw [List.flatMap_eq_nil_iff];intro p hp;exact zfc (hnos p.1 (y9.2 ⟨p,hp,rfl⟩))
 have hal:zfq (qs.map (·.1))=true∧zef (qs.map (·.1))=true:=by rw [hq1];exact ⟨ha1,ha2⟩
 have hf0:∀ i,(Array.replicate l.toArray.size false).getD i false=false:=λi=>by
  simp only [y6,Array.getElem?_replicate];split <;> rfl
 refine wp_region_any hm ?_;have hend:TriL P C l.toArray (l.drop n) (zcr Q) ⟨zvj (zvm (zu0 qs)) s.H.length (TL s.T qs (λ_=>true) qs.length),s.H++zg3 P (zu0 qs)⟩:=by
  have e:zg3 P (zu0 qs)=[]:=by rw [hevs];rfl
  rw [e,hevs,ue];exact TriL.wk hq3 hK
 have hFn:∀ i∈F,i<n:=by
  have:∀ (F dn:List Nat),zfw l n F dn=true→∀ i∈F,i<n:=by
   intro F
   induction F with
   | nil=>intro dn _;simp
   | cons i F ih=>
    intro dn h j hj;obtain ⟨⟨oi,f⟩,h'⟩:=zhB h;rcases yG.1 hj with rfl | hj
    ·exact f.lt
    ·exact ih _ h' j hj
  exact this F [] hf1
 have hR2:R C bs ⟨TL s.T qs (λk=>(Array.replicate l.toArray.size false).getD k false) qs.length,s.H⟩ a { w with drawn:=w.drawn+1 }:=by
  refine hR.drew.weaken λt v hv=>?_
  rw [← hv];have:TL s.T qs (λk=>(Array.replicate l.toArray.size false).getD k false) qs.length=TL s.T qs (λk=>(Array.replicate l.toArray.size false).getD k false) 0:=by
   have:=zfa (T:=s.T) (ps:=qs) (p:=λk=>(Array.replicate l.toArray.size false).getD k false) (m:=0) (λi _=>hf0 i) qs.length;simpa using this
  rw [this];rfl
 have key:=zjc (P:=P) (C:=C) (bs:=bs) (H:=s.H) (T0:=s.T) (Q:=zcr Q) (ps:=qs) (n:=n) (λc s h=>h) hf2 hfst hlen ok hq2 F [] hf1 (hI.all hq3) (Array.replicate l.toArray.size false) a { w with drawn:=w.drawn+1 } (l.length - F.length) (by simp)
  (λj _=>by rw [hf0 j];simp) (λj _ hj=>by rw [hf0 j] at hj;cases hj) hR2 (λlisted' a' q1 q2 q3 q4=>?_)
 ·have e:l.toArray.size=l.length - F.length+F.length:=by simp;omega
  have key':wpAny P .any l.toArray (QR C (zcr Q)) l.toArray.size (Array.replicate l.toArray.size false) a { w with drawn:=w.drawn+1 }:=by
   conv=>arg 5;rw [e]
   exact key
  exact key'
 ·have hq2':∀ j,j<l.length→(listed'.getD j false=true↔j∈F):=λj hj=>by rw [q2 j hj];simp
  have ok':zwG l qs.length M F:=by rw [hlen];exact ok
  refine zie (P:=P) (C:=C) (bs:=bs) (H:=s.H) (T0:=s.T) (Q:=zcr Q) (ps:=qs) (l2:=l.drop n) (M:=M) (L0:=F) (l:=l) hl ok' (λi o v hi=>hq2 i o v hi) hal.1 hal.2 hend _ listed' a' _ q1
   (λi hi=>(hq2' i (by have:=hFn i hi;omega)).2 hi) (λi hi=>?_) q3 ?_ ?_
  ·by_cases hil:i<l.length
   ·cases hb:listed'.getD i false with
    | false=>rfl
    | true=>have:=hFn i ((hq2' i hil).1 hb);omega
   ·simp [y6,show listed'[i]? = none by simp;omega]
  ·have hcnt:((List.range qs.length).filter λi=>!listed'.getD i false).length=qs.length - F.length:=by
    have e1:((List.range qs.length).filter λi=>!listed'.getD i false)=(List.range qs.length).filter (λi=>!F.contains i):=by
     refine List.filter_congr λi hi=>?_
     have hi':=yV.1 hi;have:=hq2' i (by omega);cases hb:listed'.getD i false
     ·have hno:i∉F:=λh=>by rw [this.2 h] at hb;cases hb
      simp [hno]
     ·have hyes:=this.1 hb;simp [hyes]
    rw [e1];rw [hlen];omega
   rw [hcnt,hlen,ua];omega
  ·refine ⟨λ_=>none,?_,⟨λi b h=>(by cases h),λi o v t r h1 h2 _ _=>?_,λi j b h=>(by cases h),λi b h=>(by cases h)⟩,λi b h=>(by cases h)⟩
   ·exact q4.zuu (A:=(C.plus λ_=>none).A0) (Fr.refl ze _) (λb _ hb=>hb.elim (λh=>h) (λ⟨i,h⟩=>(by cases h))) (λb hb=>hb.elim (q4.own.ztL b) (λ⟨i,h⟩=>(by cases h)))
   ·have:=hnos o (y9.2 ⟨(o,v),yz h1,rfl⟩);simp [zah,h2] at this
end
section
structure GMap (κ β:Type) where
 es:List (Nat×κ×β)
 clock:Nat
 wf:wfM (es.map (·.1)) clock
theorem GMap.wfm {κ β} (m:GMap κ β):wfM (m.es.map (·.1)) m.clock:=m.wf
def GMap.empty {κ β:Type}:GMap κ β:=⟨[],0,⟨by simp,by simp⟩⟩
theorem ziK {κ β:Type} {es:List (Nat×κ×β)} {cl} (h:wfM (es.map (·.1)) cl) (i) (v):wfM ((es.modify i (λe=>(e.1,e.2.1,v))).map (·.1)) cl:=by
 have e:(es.modify i (λe=>(e.1,e.2.1,v))).map (·.1)=es.map (·.1):=by
  apply y8
  grind
 grind
theorem zmb {κ β:Type} {es} {cl} (h:wfM (es.map (·.1)) cl) (k:κ) (v:β):wfM ((es++[(cl,k,v)]).map (·.1)) (cl+1):=by
 simp only [ul,yY,List.map_nil];refine ⟨uR.2 ⟨h.nd,by simp,λa e b d=>?_⟩,λx c=>?_⟩
 ·simp only [yM] at d;subst d;exact Nat.ne_of_lt (h.lt a e)
 ·rcases yu.1 c with c | c
  ·exact Nat.lt_succ_of_lt (h.lt x c)
  grind
theorem zkt {κ β:Type} {es:List (Nat×κ×β)} {cl} (h:wfM (es.map (·.1)) cl) (i):wfM ((es.eraseIdx i).map (·.1)) cl:=by
 have a:((es.eraseIdx i).map (·.1)).Sublist (es.map (·.1)):=(List.eraseIdx_sublist es i).map _;exact ⟨a.nodup h.nd,λx b=>h.lt x (a.subset b)⟩
def zuA {κ β:Type} [DecidableEq κ] (k:κ):List (Nat×κ×β)→Option (Nat×β)
 | []=>none
 | e::es=>if k=e.2.1 then some (0,e.2.2) else (zuA k es).map λp=>(p.1+1,p.2)
def GMap.get? {κ β:Type} [DecidableEq κ] (m:GMap κ β) (k:κ):Option β:=(zuA k m.es).map (·.2)
def GMap.put {κ β:Type} [DecidableEq κ] (m:GMap κ β) (k:κ) (v:β):GMap κ β:=match zuA k m.es with
 | some (i,_)=>⟨m.es.modify i (λe=>(e.1,e.2.1,v)),m.clock,ziK m.wf i v⟩
 | none=>⟨m.es++[(m.clock,k,v)],m.clock+1,zmb m.wf k v⟩
def GMap.del {κ β:Type} [DecidableEq κ] (m:GMap κ β) (k:κ):GMap κ β:=match zuA k m.es with
 | some (i,_)=>⟨m.es.eraseIdx i,m.clock,zkt m.wf i⟩
 | none=>m
def GMap.blk {κ β:Type} (ke:κ→Value) (ve:β→D) (m:GMap κ β):Blk:=.mp (m.es.map (·.1)) (m.es.map λe=>ke e.2.1) (m.es.map λe=>ve e.2.2) m.clock
def GMap.dat {κ β:Type} (ke:κ→Value) (ve:β→D) (m:GMap κ β):D:=.mp (m.es.map λe=>ke e.2.1) (m.es.map λe=>ve e.2.2)
variable [ztC] [Drw]
structure IsV (d:D) (v:Value):Prop where
 eq:∀ (A:Nat→Prop) (w:World) (u:Value),d.rep A w u↔u=v
theorem IsV.val (v):IsV (.val v) v:=⟨λA w u=>by grind [D.rep]⟩
theorem IsV.struct (vs):IsV (zhp vs) (.agg vs.toArray):=⟨λA w u=>⟨zeC,λh=>by
 subst h;refine ⟨vs.toArray,rfl,?_⟩
 induction vs with
 | nil=>simp [D.reps]
 | cons x xs ih=>simp only [yY,D.reps,D.rep];grind⟩⟩
theorem IsV.ev {A w bs H d v u} (h:IsV d v) (hu:V.rep A w bs H (.d d) u):u=v:=(h.eq A w u).1 (by grind [V.rep])
structure KeyT (P:Program) (kt:TypeId) {κ:Type} [DecidableEq κ] (ke:κ→Value):Prop where
 check:∀ (b:Bool) (k:κ) (w:World),(Instr.checkKey b 10000 kt (ke k)).run P w = .ok () w
 find:∀ {β:Type} (k:κ) (l:List (Nat×κ×β)) (es:List MapEntry) (w:World),es.map (·.key)=l.map (λe=>ke e.2.1)→(Instr.findKey kt (ke k) es).run P w = .ok ((zuA k l).bind λp=>(es[p.1]?).map λe=>(p.1,e.val)) w
 bits:∀ k:κ,Instr.sameBits 10000 (ke k) (ke k)=true
theorem zfv {d} {k}:∀ (es) (i),Instr.findNow d k es i=(Instr.findNow d k es 0).map (λo=>o.map λp=>(p.1+i,p.2))
 | [],i=>by simp [Instr.findNow]
 | e::es,i=>by
  simp only [Instr.findNow];split
  ·simp
  ·rw [zfv es (i+1),zfv es (0+1)];cases Instr.findNow d k es 0 with
   | none=>rfl
   | some o=>cases o <;> simp;omega
  ·rfl
theorem zf0 {κ β} [DecidableEq κ] {d} {ke:κ→Value} (hs:∀ a b,Instr.sameNow d (ke a) (ke b)=some (decide (a=b))) (k):∀ (l:List (Nat×κ×β)) (es),es.map (·.key)=l.map (λe=>ke e.2.1) →
  Instr.findNow d (ke k) es 0=some ((zuA k l).bind λp=>(es[p.1]?).map λe=>(p.1,e.val))
 | [],es,h=>by
  have:es=[]:=by simp_all
  grind [Instr.findNow,zuA]
 | x::l,[],h=>by simp at h
 | x::l,e::es,h=>by
  simp only [yY,List.cons.injEq] at h;simp only [Instr.findNow,h.1,hs,zuA];by_cases c:k=x.2.1
  ·simp [c]
  ·simp only [c];rw [zfv,zf0 hs k l es h.2];cases zuA k l with
   | none=>simp
   | some p=>simp;rfl
theorem KeyT.str {P kt} (h:P.underlying kt=some .string):KeyT P kt (λl:List UInt8=>Value.string ⟨l.toArray⟩) where
 check b k w:=MapKept.run_checkKey h (k:=.string ⟨k.toArray⟩) trivial b 9999
 find k l e w c:=MapKept.run_findKey h (zf0 (d:=.string) (ke:=λl =>Value.string ⟨l.toArray⟩) (λa b=>by grind [Instr.sameNow,beq_toListBytes,ziF]) k l e c)
 bits k:=by grind [Instr.sameBits,beq_toListBytes]
theorem KeyT.int {P kt} (h:P.underlying kt=some (.int .i64)):KeyT P kt (λn =>Value.int .i64 n) where
 check b k w:=MapKept.run_checkKey h (k:=.int .i64 k) rfl b 9999
 find k l e w c:=MapKept.run_findKey h (zf0 (d:=.int .i64) (ke:=λn =>Value.int .i64 n) (λa b=>by rfl) k l e c)
 bits k:=by simp [Instr.sameBits]
theorem R.adoptK {C:Ctx} {A} {bs} {s} {a} {w} {b} {o} (k0) (h:R { C with A0:=λc=>A c∨c=b } bs s a w) (hb:w.heap[b]? = some o) (hA:¬ A b)
  (hlo:C.w0.heap.size≤b) (hk0:k0.rep (Own A (bs++[some b])) w (bs++[some b]) (s.H++[k0]) s.H.length):R { C with A0:=A } (bs++[some b]) ⟨s.T,s.H++[k0]⟩ a w:=by
 have hbl:=(yk.1 hb).1;have hnb:some b∉bs:=λhc=>h.own.not b hc (.inr rfl)
 have hsub:∀ c,c<w.heap.size→Own A (bs++[some b]) c→Own (λc=>A c∨c=b) bs c:=λc _ hc=>by
  rcases hc with hc | hc
  ·exact .inl (.inl hc)
  ·rcases yu.1 hc with hc | hc
   ·exact .inr hc
   ·simp only [yM,yn] at hc;exact .inl (.inr hc)
 have hlen:=h.len;refine ⟨⟨λi j c hi hj=>?_,λc hc=>?_,λc hc=>?_,λc hc=>h.own.ztL c (.inl hc),h.own.glob.fr (Fr.refl ze w) (λ_ x=>x.elim) hsub⟩,by grind,λi k hk=>?_,λu v hv=>⟨(h.tmp u v hv).1,V.zuq hlen hsub v _ (h.tmp u v hv).2⟩,h.defers,h.size,h.fr,λc hc=>?_,λp hp=>⟨(h.gh p hp).1,V.zuq hlen hsub p.1 _ (h.gh p hp).2⟩⟩
 ·rcases uH i bs.length with hib | hib
  ·rw [yh hib] at hi;rcases uH j bs.length with hjb | hjb
   ·rw [yh hjb] at hj;exact h.own.apart i j c hi hj
   grind
  grind
 ·rcases yu.1 hc with hc | hc
  ·exact λhA'=>h.own.not c hc (.inl hA')
  ·simp only [yM,yn] at hc;subst hc;exact hA
 ·rcases yu.1 hc with hc | hc
  ·exact h.own.lt c hc
  ·simp only [yM,yn] at hc;subst hc;exact hbl
 ·rcases uH i s.H.length with hi | hi
  ·simp only at hk;rw [yh hi] at hk;exact Blk.zuq hlen hsub i k (h.blk i k hk)
  ·simp only at hk;rw [yP hi] at hk;have e1:i - s.H.length=0:=by have:=(yc.1 hk).1;simp at this;omega
   have e2:i=s.H.length:=by omega
   rw [e1] at hk;simp at hk;subst hk;subst e2;exact hk0
 ·rcases yu.1 hc with hc | hc
  ·exact h.new c hc
  ·simp only [yM,yn] at hc;subst hc;exact .inr hlo
theorem R.newObj {C} {bs} {T} {H} {a} {w} (h:R C bs ⟨T,H⟩ a w) (o) (k) (hk:k.rep (Own C.A0 (bs++[some w.heap.size])) (w.alloc o) (bs++[some w.heap.size]) (H++[k]) H.length) :
  R C (bs++[some w.heap.size]) ⟨T,H++[k]⟩ a (w.alloc o):=by
 have f:Fr ze w (w.alloc o):=⟨rfl,rfl,rfl,by simp,λb d _=>Below.heap_alloc w _ b d,λ_=>ym _⟩
 have i:¬ C.A0 w.heap.size:=λj=>absurd (h.own.ztL _ j) (by omega)
 have l :=
  h.zuu (A:=λc=>C.A0 c∨c=w.heap.size) f (λb d g=>g.elim id (λe=>by omega)) (λb d=>by
   rcases d with d | rfl
   ·exact yA (h.own.ztL b d) f.size
   ·simp)
 exact R.adoptK (C:=C) k l (heap_alloc_new w _) i h.fr.size hk
section
variable {P:Program} {C:Ctx} {ops:Array Oper} {o:Oper} {rest:List Oper} {Q:Exit→St→Prop} {T:List (Nat×V)} {H:List Blk} {κ β:Type} [DecidableEq κ] {ke:κ→Value} {ve:β→D}
theorem TriL.makeMap {t} {d:Nat} (ke:κ→Value) (ve:β→D) (hg:o.guard=none) (ho:o.op = .makeMap t none) (hd:o.dst=some d) (hdn:Nat.blt d C.n=true)
  (kk:TriL P C ops rest Q ⟨(d,.mp H.length)::T,H++[GMap.blk ke ve GMap.empty]⟩):TriL P C ops (o::rest) Q ⟨T,H⟩:=by
 refine TriL.step hg (λg a w c=>?_) kk;have b:(execOp a.eval o).run P w = .ok (.value (.map (some w.heap.size))) (w.alloc (.map #[] 0)):=by
  simp only [execOp,ho,Option.map_none,Sem.run_bind,run_makeMap,Result.andThen_ok,Sem.run_pure]
 refine ⟨_,_,g++[some w.heap.size],b,.inl ⟨_,rfl,?_⟩⟩;have e:=c.len;have f:=c.newObj (.map #[] 0) (GMap.blk ke ve GMap.empty) (by
  grind [GMap.blk,GMap.empty,Blk.rep,heap_alloc_new,D.reps])
 have:=f.put (Fr.refl _ _) (some d) (by grind [zt2]) (v:=.mp H.length) (u:=.map (some w.heap.size)) (by
  simp only [V.rep];simp only [uv,yT,GMap.blk]
  grind)
 rw [hd];exact this
theorem zfd:∀ {l} {k:κ} {i} {v:β},zuA k l=some (i,v)→∃ b,l[i]? = some (b,k,v)
 | [],_,_,_,h=>by grind [zuA]
 | e::l,k,i,v,h=>by
  simp only [zuA] at h;split at h
  ·grind
  ·cases a:zuA k l with
   | none=>grind
   | some p=>
    simp only [a] at h;obtain ⟨b,c⟩:=zfd a
    grind
theorem zoz {A w d v} (hv:d.rep A w v):∀ {ds} {vs} (i),D.reps A w ds vs→D.reps A w (ds.set i d) (vs.set i v)
 | [],vs,i,h=>by grind [D.reps]
 | x::ds,vs,0,h=>by
  obtain ⟨u,c,rfl,b,a⟩:=h;simp only [List.set_cons_zero,D.reps]
  grind
 | x::ds,vs,i+1,h=>by
  obtain ⟨u,c,rfl,b,a⟩:=h;exact ⟨u,_,rfl,b,zoz hv i a⟩
theorem zk9 {A w}:∀ {ds} {vs} (i),D.reps A w ds vs→D.reps A w (ds.eraseIdx i) (vs.eraseIdx i)
 | [],vs,i,h=>by grind [D.reps]
 | x::ds,vs,0,h=>by
  simp only [D.reps] at h
  grind
 | x::ds,vs,i+1,h=>by
  obtain ⟨u,c,rfl,b,a⟩:=h;exact ⟨u,_,rfl,b,zk9 i a⟩
theorem R.zwN {bs a w i b} {m m'} (h:R C bs ⟨T,H⟩ a w) (hi:H[i]? = some (GMap.blk ke ve m)) (hb:bs[i]? = some (some b)) {es es' cl} (hh:w.heap[b]? = some (.map es cl))
  (h1:es'.toList.map (·.born)=m'.es.map (·.1)) (h2:es'.toList.map (·.key)=m'.es.map λe=>ke e.2.1) (h3:D.reps (Own C.A0 bs) w (m'.es.map λe=>ve e.2.2) (es'.toList.map (·.val))) :
  R C bs ⟨T,H.set i (GMap.blk ke ve m')⟩ a { w with heap:=w.heap.setIfInBounds b (.map es' m'.clock) }:=by
 have f:Fr (λc=>some b=some c) w { w with heap:=w.heap.setIfInBounds b (.map es' m'.clock) }:=
  ⟨rfl,rfl,rfl,by simp,λc _ l=>by grind,λ_=>ym _⟩
 have d:bs.set i (some b)=bs:=by
  refine y8 λq=>?_
  grind
 have g:∀ c,some b=some c→Own C.A0 bs c:=λc k=>.inr (by grind)
 have j:=R.upd (y:=GMap.blk ke ve m') (c':=some b) h hi hb (by simp [GMap.blk,Compat]) f (.inl rfl) (by
  refine ⟨b,es',by grind,by grind,h1,h2,?_⟩;rw [d];exact D.zt8 f g (λc _ k=>k) _ _ h3)
 grind
theorem R.mapAt {bs a w i} {m} {v} (h:R C bs ⟨T,H⟩ a w) (hi:H[i]? = some (GMap.blk ke ve m)) (hv:V.rep (Own C.A0 bs) w bs H (.mp i) v) :
  ∃ b es,bs[i]? = some (some b)∧v = .map (some b)∧w.heap[b]? = some (.map es m.clock)∧es.toList.map (·.born)=m.es.map (·.1)∧es.toList.map (·.key)=m.es.map (λe=>ke e.2.1)∧D.reps (Own C.A0 bs) w (m.es.map λe=>ve e.2.2) (es.toList.map (·.val)):=by
 have c:=h.blk i _ hi;obtain ⟨b,es,f,g,j,k,d⟩:=c;simp only [V.rep,hi,GMap.blk] at hv
 grind
theorem TriL.zya {t kt et x y z i} {m} {k} {dk} {v} (hg:o.guard=none) (ho:o.op = .mapUpdate t x y z∨o.op = .insert t x y z) (hd:o.dst=none) (ht:P.underlying t=some (.map kt et)) (hK:KeyT P kt ke)
  (hx:ev T x=some (.mp i)) (hi:H[i]? = some (GMap.blk ke ve m)) (hy:ev T y=some (.d dk)) (hz:ev T z=some (.d (ve v)))
  (kk:TriL P C ops rest Q ⟨T,H.set i (GMap.blk ke ve (m.put k v))⟩) (hkd:IsV dk (ke k):=by exact .val _):TriL P C ops (o::rest) Q ⟨T,H⟩:=by
 refine TriL.step hg (λbs a w hR=>?_) kk;obtain ⟨b,es,h1,h2,h3,h4,h5,h6⟩:=hR.mapAt hi (hR.ev hx);have e2:=hkd.ev (hR.ev hy);have e3:=hR.ev hz;simp only [V.rep] at e3;have hlen:es.toList.length=m.es.length:=by have:=congrArg List.length h4;grind
 have hfind:=hK.find k m.es es.toList w h5;cases hf:zuA k m.es with
 | none=>
  simp only [hf,Option.bind_none] at hfind;have hrun:(execOp a.eval o).run P w = .ok .skip { w with heap:=w.heap.setIfInBounds b (.map (es.push { key:=ke k,val:=a.eval z,born:=m.clock }) (m.clock+1)) }:=by
   rcases ho with ho | ho <;> simp only [execOp,ho,h2,e2,Instr.mapUpdate,Sem.run_bind,run_underlying ht,MapKept.run_getObj_map h3,hK.check,hfind,MapKept.run_setObj_map _ h3,Result.andThen_ok,Sem.run_pure]
  have hput:m.put k v=⟨m.es++[(m.clock,k,v)],m.clock+1,zmb m.wf k v⟩:=by grind [GMap.put]
  refine ⟨_,_,bs,hrun,.inr ⟨rfl,?_⟩⟩;rw [hd,hput];exact R.zwN (m':=⟨m.es++[(m.clock,k,v)],m.clock+1,zmb m.wf k v⟩) hR hi h1 h3 (by simp [h4]) (by simp [h5]) (by
   simp only [ul,yY,List.map_nil,Array.toList_push];exact D.zt6 h6 (by simp only [D.reps];grind))
 | some p=>
  obtain ⟨j,u⟩:=p;obtain ⟨bj,hj⟩:=zfd hf;have hjl:j<es.toList.length:=by rw [hlen];exact (yc.1 hj).1
  have hje:es[j]? = some es[j]:=uk (by simpa using hjl);have hjk:es[j].key=ke k:=by
   have h:=congrArg (λl=>l[j]?) h5;simp only [y0,hj,yZ,hje,yR,yn] at h;exact h
  simp only [hf,ya,yZ,hje,yR] at hfind;have hrun:(execOp a.eval o).run P w = .ok .skip { w with heap:=w.heap.setIfInBounds b (.map (es.modify j λe=>{ e with key:=ke k,val:=a.eval z }) m.clock) }:=by
   rcases ho with ho | ho <;> simp only [execOp,ho,h2,e2,Instr.mapUpdate,Sem.run_bind,run_underlying ht,MapKept.run_getObj_map h3,hK.check,hfind,Result.andThen_ok,Sem.run_pure,hje,yR,yj,hjk,Instr.keyThatStays,hK.bits,if_true,MapKept.run_setObj_map _ h3]
  have hput:m.put k v=⟨m.es.modify j (λe=>(e.1,e.2.1,v)),m.clock,ziK m.wf j v⟩:=by simp [GMap.put,hf]
  refine ⟨_,_,bs,hrun,.inr ⟨rfl,?_⟩⟩;rw [hd,hput];have hmod:∀ {α γ:Type} (l:List α) (f:α→α) (g:α→γ) (n:Nat),(∀ x,l[n]? = some x→g (f x)=g x)→(l.modify n f).map g=l.map g:=by
   intro α γ l f g n hfg;refine y8 λq=>?_
   simp only [y0,List.getElem?_modify];by_cases hq:n=q
   ·subst hq;cases hl:l[n]? with
    | none=>simp
    | some x=>simp [hfg x hl]
   ·simp [hq]
  have hmods:∀ {α γ:Type} (l:List α) (f:α→α) (g:α→γ) (n:Nat) (c:γ),(∀ x,l[n]? = some x→g (f x)=c)→(l.modify n f).map g=(l.map g).set n c:=by
   intro α γ l f g n c hfg;refine y8 λq=>?_
   simp only [y0,List.getElem?_modify,List.getElem?_set,yK];by_cases hq:n=q
   ·subst hq;cases hl:l[n]? with
    | none=>have:=List.getElem?_eq_none_iff.1 hl;simp;omega
    | some x=>have:=(yc.1 hl).1;simp [hfg x hl,this]
   ·simp [hq]
  exact R.zwN (m':=⟨m.es.modify j (λe=>(e.1,e.2.1,v)),m.clock,ziK m.wf j v⟩) hR hi h1 h3
   (by rw [Array.toList_modify];exact (hmod es.toList (λe=>{ e with key:=ke k,val:=a.eval z }) (·.born) j (λ_ _=>rfl)).trans (h4.trans (hmod m.es (λe=>(e.1,e.2.1,v)) (·.1) j (λ_ _=>rfl)).symm))
   (by rw [Array.toList_modify];exact (hmod es.toList (λe=>{ e with key:=ke k,val:=a.eval z }) (·.key) j (λx hx=>by rw [yZ,hje] at hx;cases hx;exact hjk.symm)).trans (h5.trans (hmod m.es (λe=>(e.1,e.2.1,v)) (λe=>ke e.2.1) j (λ_ _=>rfl)).symm))
   (by
    rw [Array.toList_modify,hmods es.toList (λe=>{ e with key:=ke k,val:=a.eval z }) (·.val) j (a.eval z) (λ_ _=>rfl),hmods m.es (λe=>(e.1,e.2.1,v)) (λe=>ve e.2.2) j (ve v) (λ_ _=>rfl)];exact zoz e3 j h6)
theorem TriL.mapPut {t kt et x y z i} {m} {k} {dk} {v} (hg:o.guard=none) (ho:o.op = .mapUpdate t x y z) (hd:o.dst=none) (ht:P.underlying t=some (.map kt et)) (hK:KeyT P kt ke)
  (hx:ev T x=some (.mp i)) (hi:H[i]? = some (GMap.blk ke ve m)) (hy:ev T y=some (.d dk)) (hz:ev T z=some (.d (ve v)))
  (kk:TriL P C ops rest Q ⟨T,H.set i (GMap.blk ke ve (m.put k v))⟩) (hkd:IsV dk (ke k):=by exact .val _):TriL P C ops (o::rest) Q ⟨T,H⟩:=.zya hg (.inl ho) hd ht hK hx hi hy hz kk hkd
theorem TriL.zxy {t kt et x y z i} {m} {k} {dk} {v} (hg:o.guard=none) (ho:o.op = .insert t x y z) (hd:o.dst=none) (ht:P.underlying t=some (.map kt et)) (hK:KeyT P kt ke)
  (hx:ev T x=some (.mp i)) (hi:H[i]? = some (GMap.blk ke ve m)) (hy:ev T y=some (.d dk)) (hz:ev T z=some (.d (ve v)))
  (kk:TriL P C ops rest Q ⟨T,H.set i (GMap.blk ke ve (m.put k v))⟩) (hkd:IsV dk (ke k):=by exact .val _):TriL P C ops (o::rest) Q ⟨T,H⟩:=.zya hg (.inr ho) hd ht hK hx hi hy hz kk hkd
theorem TriL.mapDel {t kt et kt' x y i} {m} {k} {dk} (hg:o.guard=none) (ho:o.op = .call { callee:=.builtin .delete,args:=#[x,y],argTypes:=#[t,kt'] }) (hd:o.dst=none) (ht:P.underlying t=some (.map kt et)) (hK:KeyT P kt ke)
  (hx:ev T x=some (.mp i)) (hi:H[i]? = some (GMap.blk ke ve m)) (hy:ev T y=some (.d dk))
  (kk:TriL P C ops rest Q ⟨T,H.set i (GMap.blk ke ve (m.del k))⟩) (hkd:IsV dk (ke k):=by exact .val _):TriL P C ops (o::rest) Q ⟨T,H⟩:=by
 refine TriL.step hg (λbs a w hR=>?_) kk;obtain ⟨b,es,h1,h2,h3,h4,h5,h6⟩:=hR.mapAt hi (hR.ev hx);have e2:=hkd.ev (hR.ev hy);have hlen:es.toList.length=m.es.length:=by have:=congrArg List.length h4;grind
 have hfind:=hK.find k m.es es.toList w h5;cases hf:zuA k m.es with
 | none=>
  simp only [hf,Option.bind_none] at hfind;have hrun:(execOp a.eval o).run P w = .ok (.value (.tuple #[])) { w with heap:=w.heap.setIfInBounds b (.map es m.clock) }:=by
   simp [execOp,ho,resolve,invoke,builtin,Builtin.delete_,h2,e2,run_underlying ht,MapKept.run_getObj_map h3,hK.check,hfind,MapKept.run_setObj_map _ h3]
  have hput:m.del k=m:=by grind [GMap.del]
  refine ⟨_,_,bs,hrun,.inl ⟨_,rfl,?_⟩⟩;rw [hd,hput];exact R.zwN (m':=m) hR hi h1 h3 h4 h5 h6
 | some p=>
  obtain ⟨j,u⟩:=p;obtain ⟨bj,hj⟩:=zfd hf;have hjl:j<es.toList.length:=by rw [hlen];exact (yc.1 hj).1
  have hje:es[j]? = some es[j]:=uk (by simpa using hjl);simp only [hf,ya,yZ,hje,yR] at hfind;have hrun:(execOp a.eval o).run P w = .ok (.value (.tuple #[])) { w with heap:=w.heap.setIfInBounds b (.map (es.eraseIdxIfInBounds j) m.clock) }:=by
   simp [execOp,ho,resolve,invoke,builtin,Builtin.delete_,h2,e2,run_underlying ht,MapKept.run_getObj_map h3,hK.check,hfind,MapKept.run_setObj_map _ h3]
  have hput:m.del k=⟨m.es.eraseIdx j,m.clock,zkt m.wf j⟩:=by simp [GMap.del,hf]
  have hto:(es.eraseIdxIfInBounds j).toList=es.toList.eraseIdx j:=by
   unfold Array.eraseIdxIfInBounds;rw [dif_pos (by simpa using hjl),Array.toList_eraseIdx]
  have hmap:∀ {α γ:Type} (l:List α) (g:α→γ),(l.eraseIdx j).map g=(l.map g).eraseIdx j:=λl g=>by
   rw [List.eraseIdx_eq_take_drop_succ,List.eraseIdx_eq_take_drop_succ,ul,List.map_take,List.map_drop]
  refine ⟨_,_,bs,hrun,.inl ⟨_,rfl,?_⟩⟩;rw [hd,hput];exact R.zwN (m':=⟨m.es.eraseIdx j,m.clock,zkt m.wf j⟩) hR hi h1 h3 (by rw [hto,hmap,hmap,h4]) (by rw [hto,hmap,hmap,h5]) (by rw [hto,hmap,hmap];exact zk9 j h6)
variable {e:Operand→Option V}
theorem OpV.zxx {t kt et x y i} {m} {k} {dk} {z} (ho:o.op = .lookup t x y false) (ht:P.underlying t=some (.map kt et)) (hK:KeyT P kt ke)
  (hx:e x=some (.mp i)) (hi:H[i]? = some (GMap.blk ke ve m)) (hy:e y=some (.d dk)) (hz:zvq P et (ve z)) (hkd:IsV dk (ke k):=by exact .val _):OpV P o e H (.d (ve ((m.get? k).getD z))):=
 .of_same λA0 bs w f mm hf=>by
  have h0:=hf x (by grind [Op.operands]) _ hx;have e2:=hkd.ev (hf y (by grind [Op.operands]) _ hy);have hblk:=mm.blk i _ hi;simp only [GMap.blk,Blk.rep] at hblk;obtain ⟨b,es,h1,h3,h4,h5,h6⟩:=hblk;simp only [V.rep,hi,GMap.blk] at h0;obtain ⟨b',hb',h2⟩:=h0;obtain rfl:b=b':=by grind
  have hlen:es.toList.length=m.es.length:=by have:=congrArg List.length h4;grind
  have hfind:=hK.find k m.es es.toList w h5;obtain ⟨zv,hz1,hz2⟩:=hz.out;have hzr:(zeroValue et).run P w = .ok zv w:=by
   unfold zbD at hz1;cases hi:P.info? et with
   | none=>simp_all
   | some inf=>simp only [hi] at hz1;simp [zeroValue,typeInfo,hi,hz1]
  cases hf:zuA k m.es with
  | none=>
   simp only [hf,Option.bind_none] at hfind;refine ⟨zv,by simp [execOp,ho,h2,e2,Instr.lookup,run_underlying ht,MapKept.run_getObj_map h3,hK.check,hfind,hzr],?_⟩;simp only [V.rep,GMap.get?,hf,Option.map_none,Option.getD_none];simp_all
  | some p=>
   obtain ⟨j,u⟩:=p;obtain ⟨bj,hj⟩:=zfd hf;have hjl:j<es.toList.length:=by rw [hlen];exact (yc.1 hj).1
   have hje:es[j]? = some es[j]:=uk (by simpa using hjl);simp only [hf,ya,yZ,hje,yR] at hfind;refine ⟨es[j].val,by simp [execOp,ho,h2,e2,Instr.lookup,run_underlying ht,MapKept.run_getObj_map h3,hK.check,hfind],?_⟩;simp only [V.rep,GMap.get?,hf,yR,yj];obtain ⟨v,g1,g2⟩:=D.zuk h6 j (ve u) (by simp [y0,hj]);simp only [y0,yZ,hje,yR,yn] at g1;rw [g1];exact g2
theorem OpV.zx9 {t kt et x y} {m} {k} {dk} {z} (ho:o.op = .lookup t x y false) (ht:P.underlying t=some (.map kt et)) (hK:KeyT P kt ke)
  (hx:e x=some (.d (GMap.dat ke ve m))) (hy:e y=some (.d dk)) (hz:zvq P et (ve z)) (hkd:IsV dk (ke k):=by exact .val _):OpV P o e H (.d (ve ((m.get? k).getD z))):=
 .of_same λA0 bs w f mm hf=>by
  have h0:=hf x (by grind [Op.operands]) _ hx;have e2:=hkd.ev (hf y (by grind [Op.operands]) _ hy);simp only [V.rep,GMap.dat,D.rep] at h0;obtain ⟨b,es,cl,h2,_,_,h3,h5,_,h6⟩:=h0;have hlen:es.toList.length=m.es.length:=by have:=congrArg List.length h5;grind
  have hfind:=hK.find k m.es es.toList w h5;obtain ⟨zv,hz1,hz2⟩:=hz.out;have hzr:(zeroValue et).run P w = .ok zv w:=by
   unfold zbD at hz1;cases hi:P.info? et with
   | none=>grind
   | some inf=>simp only [hi] at hz1;simp [zeroValue,typeInfo,hi,hz1]
  cases hf:zuA k m.es with
  | none=>
   simp only [hf,Option.bind_none] at hfind;refine ⟨zv,by simp [execOp,ho,h2,e2,Instr.lookup,run_underlying ht,MapKept.run_getObj_map h3,hK.check,hfind,hzr],?_⟩;simp only [V.rep,GMap.get?,hf,Option.map_none,Option.getD_none]
   grind
  | some p=>
   obtain ⟨j,u⟩:=p;obtain ⟨bj,hj⟩:=zfd hf;have hjl:j<es.toList.length:=by rw [hlen];exact (yc.1 hj).1
   have hje:es[j]? = some es[j]:=uk (by simpa using hjl);simp only [hf,ya,yZ,hje,yR] at hfind;refine ⟨es[j].val,by simp [execOp,ho,h2,e2,Instr.lookup,run_underlying ht,MapKept.run_getObj_map h3,hK.check,hfind],?_⟩;simp only [V.rep,GMap.get?,hf,yR,yj];obtain ⟨v,g1,g2⟩:=D.zuk h6 j (ve u) (by simp [y0,hj]);simp only [y0,yZ,hje,yR,yn] at g1;rw [g1];exact g2
theorem OpV.mapLen {t kt et x i} {m} (ho:o.op = .call { callee:=.builtin .len,args:=#[x],argTypes:=#[t] }) (ht:P.underlying t=some (.map kt et)) (hx:e x=some (.mp i)) (hi:H[i]? = some (GMap.blk ke ve m)):OpV P o e H (.d (.int (m.es.length:Int))):=
 .of_same λs v w f j k=>by
  have g:=k x (by grind [Op.operands,Call.operands]) _ hx;have a:=j.blk i _ hi;obtain ⟨b,h,y,n,p,z,u⟩:=a;simp only [V.rep,hi] at g;obtain ⟨l,q,r⟩:=g;obtain rfl:b=l:=by grind
  have c:h.size=m.es.length:=by have:=congrArg List.length p;grind
  refine ⟨.int .i64 m.es.length,by simp [execOp,ho,resolve,invoke,builtin,Builtin.len_,r,run_underlying ht,MapKept.run_getObj_map n,goInt,c],zt.2 rfl⟩
theorem TriL.mapRange {t kt et} {x} {i d:Nat} {m} (hg:o.guard=none) (ho:o.op = .range t x) (hd:o.dst=some d) (hdn:Nat.blt d C.n=true) (ht:P.underlying t=some (.map kt et)) (hx:ev T x=some (.mp i)) (hi:H[i]? = some (GMap.blk ke ve m))
  (kk:TriL P C ops rest Q ⟨(d,.itp H.length)::T,H++[.it i m.clock [] m.clock]⟩):TriL P C ops (o::rest) Q ⟨T,H⟩:=by
 refine TriL.step hg (λbs a w hR=>?_) kk;obtain ⟨b,es,h1,h2,h3,_⟩:=hR.mapAt hi (hR.ev hx);have hrun:(execOp a.eval o).run P w = .ok (.value (.pointer (some ⟨w.heap.size,0,none⟩))) (w.alloc (.mapIter (some b) m.clock #[] m.clock)):=by
  simp only [execOp,ho,h2,Sem.run_bind,run_range_map w t kt et b es m.clock ht h3,Result.andThen_ok,Sem.run_pure]
 refine ⟨_,_,bs++[some w.heap.size],hrun,.inl ⟨_,rfl,?_⟩⟩;have hlen:=hR.len;have h2:=hR.newObj (.mapIter (some b) m.clock #[] m.clock) (.it i m.clock [] m.clock) (by
  grind [Blk.rep,List.getElem?_append_left,GMap.blk,heap_alloc_new])
 have:=h2.put (Fr.refl _ _) (some d) (by grind [zt2]) (v:=.itp H.length) (u:=.pointer (some ⟨w.heap.size,0,none⟩)) (by
  simp only [V.rep];simp_all)
 rw [hd];exact this
def GMap.left {κ β:Type} (m:GMap κ β) (seen:List Nat):List (Nat×κ×β):=m.es.filter λe=>!seen.contains e.1
def GMap.old {κ β:Type} (m:GMap κ β) (since last:Nat):Bool:=m.es.all (λe=>decide (e.1<since))&&decide (since≤last)
theorem zjV (es) (seen:List Nat):(leftOf es seen.toArray).toList=es.toList.filter λe=>!seen.contains e.born:=by
 simp [leftOf]
theorem TriL.mapNext {x} {i j d since last:Nat} {seen} {m} (hg:o.guard=none) (ho:o.op = .next x false) (hd:o.dst=some d) (hdn:Nat.blt d C.n=true) (hx:ev T x=some (.itp i)) (hi:H[i]? = some (.it j since seen last)) (hj:H[j]? = some (GMap.blk ke ve m)) (hc:m.old since last=true)
  (hend:m.left seen=[]→TriL P C ops rest Q ⟨(d,.d (.tup [.bool false]))::T,H⟩)
  (hstep:∀ e∈m.left seen,TriL P C ops rest Q ⟨(d,.d (.tup [.bool true,.val (ke e.2.1),ve e.2.2]))::T,H.set i (.it j since (seen++[e.1]) m.clock)⟩):TriL P C ops (o::rest) Q ⟨T,H⟩:=by
 refine ⟨λbs a w hR=>wpList_plain hg λK hK=>?_⟩;have h0:=hR.ev hx;have hbi:=hR.blk i _ hi;have hbj:=hR.blk j _ hj;simp only [GMap.blk,Blk.rep] at hbj;obtain ⟨bm,es,g1,g2,g3,g4,g5⟩:=hbj;simp only [Blk.rep,hj,GMap.blk] at hbi;obtain ⟨b,bm',k1,k2,k3⟩:=hbi;obtain rfl:bm=bm':=by grind
 simp only [V.rep,hi] at h0;obtain ⟨b',hb',h2⟩:=h0;obtain rfl:b=b':=by grind
 simp only [GMap.old,yd,yp,yf] at hc;have hlen:es.toList.length=m.es.length:=by have:=congrArg List.length g3;grind
 have hget:∀ (q:Nat) (y:MapEntry),es.toList[q]? = some y→∃ e,m.es[q]? = some e∧e.1=y.born∧ke e.2.1=y.key:=by
  intro q y hy;have hq:q<m.es.length:=by grind
  refine ⟨m.es[q],yw hq,?_,?_⟩
  ·have h:=congrArg (λl=>l[q]?) g3
   grind [List.getElem?_eq_getElem,Option.some.injEq]
  ·have h:=congrArg (λl=>l[q]?) g4;simp only [y0,hy,yw hq,yR,yn] at h;exact h.symm
 have hnext:=run_next_at (P:=P) w o.type b bm since last seen.toArray es m.clock k3 g2 (λy hy=>by
  obtain ⟨q,hq⟩:=List.getElem?_of_mem hy;obtain ⟨e,he,h1,_⟩:=hget q y hq;rw [← h1];exact hc.1 e (yz he)) hc.2
 unfold Oper.wp;have hex:(execOp a.eval o).run P w=((Instr.next (.pointer (some ⟨b,0,none⟩)) false o.type).run P w).andThen λv w'=>.ok (.value v) w':=by
  simp only [execOp,ho,h2,Sem.run_bind,Sem.run_pure]
 rw [hex];rcases hnext with ⟨hz,hrun⟩ | ⟨y,hy,w1,hw1,hrun⟩
 ·rw [hrun];simp only [Result.andThen_ok,Oper.upon];refine hK _ _ ((hend ?_).run bs _ _ ?_)
  ·have hl0:(leftOf es seen.toArray).toList=[]:=yX (by simpa using hz);rw [zjV] at hl0;rw [GMap.left,List.filter_eq_nil_iff];intro e he;obtain ⟨q,hq⟩:=List.getElem?_of_mem he;have hq2:q<es.toList.length:=by rw [hlen];exact (yc.1 hq).1
   obtain ⟨e',he',h1,_⟩:=hget q es.toList[q] (yw hq2);rw [hq] at he';cases he';have:=(List.filter_eq_nil_iff.1 hl0) es.toList[q] (yi hq2);rw [← h1] at this;exact this
  ·have:=hR.put (Fr.refl _ _) (some d) (by simpa [zt2] using hdn) (v:=.d (.tup [.bool false])) (u:=.tuple #[.bool false]) (by simp only [V.rep,D.rep];exact ⟨#[.bool false],rfl,by simp [D.reps,D.rep]⟩);rw [hd];exact this
 ·rw [hrun];simp only [Result.andThen_ok,Oper.upon];rw [zjV] at hy;obtain ⟨hy1,hy2⟩:=List.mem_filter.1 hy;obtain ⟨q,hq⟩:=List.getElem?_of_mem hy1;obtain ⟨e,he,h1,h3⟩:=hget q y hq;have hmem:e∈m.left seen:=List.mem_filter.2 ⟨yz he,by rw [h1];exact hy2⟩;refine hK _ _ ((hstep e hmem).run bs _ _ ?_);have hR1:R C bs ⟨T,H⟩ a w1:=by
   rcases hw1 with rfl | rfl
   ·exact hR
   ·exact hR.drew
  have hheap:w1.heap=w.heap:=by rcases hw1 with rfl | rfl <;> rfl
  have hlt:b<w1.heap.size:=by rw [hheap];exact (yk.1 k3).1
  have hfr:Fr (λc=>some b=some c) w1 (ChangeMaps.setBlock w1 b (.mapIter (some bm) since (seen.toArray.push y.born) m.clock)):=
   ⟨rfl,rfl,rfl,by simp [ChangeMaps.setBlock],λc _ hno=>by simp [ChangeMaps.setBlock,Array.getElem?_setIfInBounds_ne (λe:b=c=>hno (by rw [e]))],λ_=>ym _⟩
  have hset:bs.set i (some b)=bs:=by
   refine y8 λq=>?_
   by_cases hij:i=q
   ·subst hij;rw [yy (yc.1 k1).1,k1]
   ·rw [yx hij]
  have hij:i≠j:=λh=>by subst h;rw [hi] at hj;simp [GMap.blk] at hj
  have hupd:=R.upd (y:=.it j since (seen++[e.1]) m.clock) (c':=some b) hR1 hi k1 (by simp [Compat]) hfr (.inl rfl) (by
   simp only [Blk.rep];rw [yx hij,hj];simp only [GMap.blk];exact ⟨b,bm,by rw [hset];exact k1,by rw [hset];exact g1,by simp [ChangeMaps.setBlock,hlt,h1]⟩)
  rw [hset] at hupd;have hval:D.rep (Own C.A0 bs) (ChangeMaps.setBlock w1 b (.mapIter (some bm) since (seen.toArray.push y.born) m.clock)) (ve e.2.2) y.val:=by
   obtain ⟨v,f1,f2⟩:=D.zuk g5 q (ve e.2.2) (by simp [y0,he]);simp only [y0,hq,yR,yn] at f1;rw [f1];have hfr0:Fr ze w w1:=by
    rcases hw1 with rfl | rfl
    ·exact Fr.refl _ _
    ·exact (Fr.refl ze w).drew
   exact D.zuB (W:=λc=>some b=some c) hfr (λc hc=>.inr (by rw [← hc];exact yz k1)) (λ_ _ h=>h) _ _ (D.zvc hfr0 f2)
  have:=hupd.put (Fr.refl _ _) (some d) (by simpa [zt2] using hdn) (v:=.d (.tup [.bool true,.val (ke e.2.1),ve e.2.2])) (u:=.tuple #[.bool true,y.key,y.val]) (by
   simp only [V.rep,D.rep];exact ⟨_,rfl,by simp only [D.reps,D.rep];exact ⟨_,_,rfl,rfl,_,_,rfl,h3.symm,_,[],rfl,hval,rfl⟩⟩)
  rw [hd];exact this
theorem OpV.entry {x i j since seen} {m} {en} (ho:o.op = .entry x) (hx:e x=some (.itp i)) (hi:H[i]? = some (.it j since (seen++[en.1]) m.clock)) (hj:H[j]? = some (GMap.blk ke ve m)) (he:en∈m.es) (hn:(m.es.map (·.1)).Nodup) :
  OpV P o e H (.d (.tup [.val (ke en.2.1),ve en.2.2])):=
 .of_same λA0 bs w f mm hf=>by
  have h0:=hf x (by grind [Op.operands]) _ hx;have hbi:=mm.blk i _ hi;have hbj:=mm.blk j _ hj;simp only [GMap.blk,Blk.rep] at hbj;obtain ⟨bm,es,g1,g2,g3,g4,g5⟩:=hbj;simp only [Blk.rep,hj,GMap.blk] at hbi;obtain ⟨b,bm',k1,k2,k3⟩:=hbi;obtain rfl:bm=bm':=by grind
  simp only [V.rep,hi] at h0;obtain ⟨b',hb',h2⟩:=h0;obtain rfl:b=b':=by grind
  obtain ⟨q,hq⟩:=List.getElem?_of_mem he;have hlen:es.toList.length=m.es.length:=by have:=congrArg List.length g3;grind
  have hql:q<es.toList.length:=by grind
  have hqe:=yw hql;have h1:es.toList[q].born=en.1:=by
   have h:=congrArg (λl=>l[q]?) g3;simpa only [y0,hq,hqe,yR,yn] using h
  have h3:es.toList[q].key=ke en.2.1:=by
   have h:=congrArg (λl=>l[q]?) g4
   grind
  have hent:=run_entry_at (P:=P) w b bm since seen.toArray es m.clock es.toList[q] (by rw [k3,h1];simp) g2 (yi hql) (by rw [g3];exact hn);obtain ⟨v,f1,f2⟩:=D.zuk g5 q (ve en.2.2) (by simp [y0,hq]);simp only [y0,hqe,yR,yn] at f1;refine ⟨.tuple #[es.toList[q].key,es.toList[q].val],by simp only [execOp,ho,h2,Sem.run_bind,hent,Result.andThen_ok,Sem.run_pure],?_⟩;simp only [V.rep,D.rep];exact ⟨_,rfl,by simp only [D.reps,D.rep];exact ⟨_,_,rfl,h3,_,[],rfl,by rw [f1];exact f2,rfl⟩⟩
noncomputable def zfU {α R:Type} (l:List α) (k:α→Option R):Option R:=open Classical in
 match l with
 | []=>none
 | a::l=>if ∀ b∈a::l,k b=k a then k a else none
theorem zlv {α R} {l} {k:α→Option R} {r} (h:zfU l k=some r):∀ a∈l,k a=some r:=by
 unfold zfU at h
 grind
theorem zlu {α R} {l} {k:α→Option R} {r} (hne:l≠[]) (h:∀ a∈l,k a=some r):zfU l k=some r:=by
 unfold zfU
 grind
noncomputable def stepM {κ β R:Type} (m:GMap κ β) (seen:List Nat) (since last:Nat) (over:Option R) (k:Nat×κ×β→Option R):Option R:=
 grd (m.old since last) (if (m.left seen).isEmpty=true then over else zfU (m.left seen) k)
theorem zsA {κ β R} {m} {seen} {since last} {over} {k:Nat×κ×β→Option R} {r} (h:stepM m seen since last over k=some r) :
  m.old since last=true∧(m.left seen=[]→over=some r)∧∀ e∈m.left seen,k e=some r:=by
 obtain ⟨a,c⟩:=grdS h;refine ⟨a,λd=>by grind,λe b=>?_⟩
 grind [zlv]
def evsV (e:Operand→Option V):List Operand→Option (List V)
 | []=>some []
 | x::xs=>match e x,evsV e xs with
  | some v,some vs=>some (v::vs)
  | _,_=>none
theorem zhA {A w bs f e}:∀ {xs} {vs},evsV e xs=some vs→(∀ x∈xs,∀ y,e x=some y→V.rep A w bs H y (f x))→V.reps A w bs H vs (xs.map f)
 | [],vs,h,_=>by grind [evsV,V.reps]
 | x::xs,vs,h,a=>by
  simp only [evsV] at h;split at h
  ·rename_i v c d g;cases h;exact ⟨_,_,rfl,a x (by simp) _ d,zhA g λy b=>a y (by simp [b])⟩
  grind
theorem OpV.zuS {g cs vs} (ho:o.op = .makeFunc (.func g) #[] cs) (hc:evsV e cs.toList=some vs):OpV P o e H (.fn (.func g) [] vs):=
 .of_same λb bs w f _ a=>by
  refine ⟨.func (.func g) #[] (cs.map f),by simp [execOp,ho,Instr.makeFunc],?_⟩;refine ⟨#[],cs.map f,rfl,by simp [V.reps],?_⟩;have:=zhA (A:=Own b bs) (w:=w) (bs:=bs) (H:=H) (f:=f) hc (λx c=>a x (by grind [Op.operands]));simp_all
omit [DecidableEq κ] in
theorem Tri.zxV {s c x y} (hc:ev s.T c=some (.d (.bool true))) (h:Tri P C x Q s):Tri P C (.cond c x y) Q s:=Tri.cond hc (λ_=>h) (λh=>(by cases h))
omit [DecidableEq κ] in
theorem Tri.zw0 {s c x y} (hc:ev s.T c=some (.d (.bool false))) (h:Tri P C y Q s):Tri P C (.cond c x y) Q s:=Tri.cond hc (λh=>(by cases h)) (λ_=>h)
end
end
section
variable [ztC] [Drw]
def zhs (P:Program) (f:FuncId):Code:=match P.funcs[f]? with | some fn=>fn.body.getD .skip | none=>.skip
theorem zcF {P f fn c} (hf:P.funcs[f]? = some fn) (hb:fn.body=some c):zhs P f=c:=by grind [zhs]
theorem zgr {P n ops} {Q0 Q'} (hno:∀ e a w,Q0 e a w→e = .normal) {post} (hk:∀ a w,Q0 .normal a w→wpListIn Fence.wide n P ops Q' post a w) :
  ∀ (pre) (a) (w),wpList P ops Q0 pre a w→wpListIn Fence.wide n P ops Q' (pre++post) a w
 | [],a,w,h=>hk a w h
 | o::pre,a,w,h=>by
  simp only [wpList] at h;simp only [uu,wpListIn];split <;> rename_i j
  ·rw [if_pos j] at h;rcases h with h | ⟨_,l,w',h⟩
   ·refine ⟨λf _=>trivial,?_⟩;unfold Oper.wp at h;have m:(o.semAt Fence.wide.round a.eval)=execOp a.eval o:=rfl;rw [m];generalize (execOp a.eval o).run P w=r at h;have g:=λa w h=>zgr hno hk pre a w h
    cases r with
    | ok nx w'=>
     cases nx with
     | value v=>exact g _ _ h
     | skip=>exact g _ _ h
     | defer d=>exact g _ _ h
     | enter f args=>
      refine ⟨λk=>by grind [Fence.wide],callsIn_wide.2 (Calls.mono h λe b i=>?_)⟩;cases e with
      | returned v=>simp_all
      | panicked chain=>grind
      | outgrown=>obtain ⟨l,w',i⟩:=i;grind
     | row row args=>
      refine ⟨λk=>by grind [Fence.wide],RowsIn.mono (R:=λv b=>wpList P ops Q0 pre (a.put o.dst v) b) (λc p _=>?_) λv b i=>g _ _ i⟩;obtain ⟨v,q,r,s⟩:=h c p
      grind [stepsIn_wide]
     | _=>exact h.elim
    | halt x w'=>
     cases x with
     | panic v=>exact absurd (hno _ _ _ h) (by simp)
     | _=>exact h.elim
   grind
  ·rw [if_neg j] at h;exact ⟨λf _=>trivial,zgr hno hk pre _ _ h⟩
theorem zlt {P f fn c xs A w vs} {Post:World→Prop} (hf:P.funcs[f]? = some fn) (hb:fn.body=some c) (hres:fn.results = #[]) (hn:xs.length≤fn.ntmps)
  (hA:∀ b,A b→b<w.heap.size) (hG:zdh A w) (hr:D.reps A w xs vs.toList)
  (h:Tri P ⟨A,ze,w,fn.ntmps,λa w'=>a.defers=[]∧Post w',[],0,[]⟩ c (λ_ _=>False) ⟨params 0 xs,[]⟩):Calls P f vs w (λe w'=>(∃ u,e = .returned u)∧Post w'):=by
 have k:=D.ztS hr;refine calls_of_wp hf hb (Code.wp_mono ?_ (h.run [] _ w ?_))
 ·rintro e o w' (⟨_,_,n,_⟩ | ⟨rfl,l,i⟩)
  ·simp_all
  ·refine ⟨l,.tuple #[],?_,⟨_,rfl⟩,i⟩;rw [zbU,hres];simp
 ·have g:(vs++Array.replicate (fn.ntmps - vs.size) undef).size=fn.ntmps:=by
   simp_all
  refine ⟨⟨by simp,by simp,by simp,hA,hG.fr (Fr.refl ze w) (λ_ x=>x.elim) (λb _ hb=>hb.elim id (λh=>by grind))⟩,rfl,by simp,λt v m=>?_,rfl,g,Fr.refl _ _,by simp,λp i=>(by cases i)⟩;have:=zdK (A:=Own A []) (w:=w) (bs:=[]) (H:=[]) xs 0 vs.toList (vs++Array.replicate (fn.ntmps - vs.size) undef)
   (D.zt8 (Fr.refl ze w) (λ_ x=>x.elim) (λb _ hb=>hb.elim id (λh=>by grind)) xs _ hr)
   (λj q=>by
    have d:j<vs.size:=by simp_all
    simp [Array.getElem?_append,d])
   (by simp_all) t v m
  grind
theorem zqn {P C fn y bs' s' a' w' ds} (hy:zeO ds=y) (hres:zxB P s' fn.results.toList ds) (hR:R C bs' s' a' w') :
  ∃ u,(results fn a'.tmps).run P w' = .ok u w'∧D.rep C.A0 w' y u:=by
 obtain ⟨b,c,a⟩:=zjr hR fn.results.toList ds hres;have g:=D.ztS a;have i:(fn.results.mapM (zeb a'.tmps)).run P w' = .ok b.toArray w':=by
  rw [← Array.toArray_toList (xs:=fn.results),List.mapM_toArray];simp_all
 rw [zbU];simp only [Sem.run_bind,i,Result.andThen_ok,Sem.run_pure]
 match ds,b,a,g with
 | [d],[u],a,_=>
  obtain ⟨_,_,e,k,_⟩:=a
  grind [zeO]
 | [],[],a,_=>grind [zeO,D.rep]
 | l::m::ds,h::j::b,a,_=>
  simp only [zeO] at hy;subst hy;have f:¬ (h::j::b).toArray.size=1:=by simp
  simp only [D.rep];simp_all
def zge (A:Nat→Prop) (w:World) (y:D) (e:Ending) (w':World):Prop:=∃ u,e = .returned u∧Fr ze w w'∧D.rep A w' y u
theorem Pure.zxk {P f fn c xs y} (hf:P.funcs[f]? = some fn) (hb:fn.body=some c) (hn:xs.length≤fn.ntmps)
  (h:∀ A w,Tri P ⟨A,ze,w,fn.ntmps,λa' w'=>LeavesInM Fence.wide 0 P fn a'.tmps (zge A w y) a'.defers .returning w',[],0,[]⟩ c (retQ P fn.results y) ⟨params 0 xs,[]⟩):Pure P f xs y:=by
 refine ⟨λA w a s B q=>?_⟩;have r:=D.ztS q;have g:CallsIn Fence.wide 0 P f a w (zge A w y):=by
  refine callsIn_of_wp_marks hf hb trivial (wpIn_wide.2 (Code.wp_mono ?_ ((h A w).run [] _ w ?_))) rfl
  ·rintro e a' w' (⟨z,L,⟨F,M,G,d⟩,m⟩ | ⟨rfl,C⟩)
   ·obtain ⟨u,l,k⟩:=zqn (P:=P) (fn:=fn) G d m;have n :=m.fr;have I :=m.defers;have E:LeavesInM Fence.wide 0 P fn a'.tmps (zge A w y) a'.defers .returning w':=by
     rw [I];exact ⟨u,l,u,rfl,n,k⟩
    rcases F with rfl | rfl <;> exact E
   ·exact C
  ·have o:(a++Array.replicate (fn.ntmps - a.size) undef).size=fn.ntmps:=by
    simp_all
   refine ⟨⟨by simp,by simp,by simp,s,B.fr (Fr.refl ze w) (λ_ x=>x.elim) (λb _ hb=>hb.elim id (λh=>by grind))⟩,rfl,by simp,λt v J=>?_,rfl,o,Fr.refl _ _,by simp,λp K=>(by cases K)⟩;have:=zdK (A:=Own A []) (w:=w) (bs:=[]) (H:=[]) xs 0 a.toList (a++Array.replicate (fn.ntmps - a.size) undef)
    (D.zt8 (Fr.refl ze w) (λ_ x=>x.elim) (λb _ hb=>hb.elim id (λh=>by grind)) xs _ q)
    (λj N=>by
     have i:j<a.size:=by simp_all
     simp [Array.getElem?_append,i])
    (by simp_all) t v J
   grind
 exact callsIn_wide.1 g
end
section
variable [ztC] [Drw]
def zgs (k:IntKind) (r:BitVec k.bits):Int:=k.wrap r.toNat
def band (k:IntKind) (x y:Int):Int:=zgs k (BitVec.ofInt k.bits x &&& BitVec.ofInt k.bits y)
def bor (k:IntKind) (x y:Int):Int:=zgs k (BitVec.ofInt k.bits x ||| BitVec.ofInt k.bits y)
def bxor (k:IntKind) (x y:Int):Int:=zgs k (BitVec.ofInt k.bits x ^^^ BitVec.ofInt k.bits y)
def bnot (k:IntKind) (x:Int):Int:=bxor k (if k.signed then -1 else k.max) x
section
variable {P:Program} {o:Oper} {e:Operand→Option V} {H:List Blk}
theorem OpV.band {t u x y k a b} (ho:o.op = .binOp .and t x y u) (hx:e x=some (.d (.val (.int k a)))) (hy:e y=some (.d (.val (.int k b)))):OpV P o e H (.d (.val (.int k (band k a b)))):=
 .zuJ ho hx hy λw=>by simp [binOp,Op.intBits,Go.Proofs.YtipkniadbkndfaaGreatDoor.band,zgs]
theorem OpV.bor {t u x y k a b} (ho:o.op = .binOp .or t x y u) (hx:e x=some (.d (.val (.int k a)))) (hy:e y=some (.d (.val (.int k b)))):OpV P o e H (.d (.val (.int k (bor k a b)))):=
 .zuJ ho hx hy λw=>by simp [binOp,Op.intBits,Go.Proofs.YtipkniadbkndfaaGreatDoor.bor,zgs]
theorem OpV.bnot {t x k a} (ho:o.op = .unOp .xor t x) (hx:e x=some (.d (.val (.int k a)))):OpV P o e H (.d (.val (.int k (bnot k a)))):=
 .of_same λ_ _ w f _ c=>by
  have b:=zt.1 (c x (by grind [Op.operands]) _ hx);exact ⟨.int k (Go.Proofs.YtipkniadbkndfaaGreatDoor.bnot k a),by simp [execOp,ho,b,Op.unary,Op.intBits,Go.Proofs.YtipkniadbkndfaaGreatDoor.bnot,Go.Proofs.YtipkniadbkndfaaGreatDoor.bxor,zgs],zt.2 rfl⟩
theorem OpV.idxG {t el ty g N x i k j l a v} (ho:o.op = .indexAddr t x i) (hx:e x=some (.d (.val (.pointer (some ⟨g,0,none⟩))))) (hi:e i=some (.d (.val (.int j a)))) (hg:(g,Obj.cells (l.map (Value.int k)).toArray ty (0,0))∈ztC.gs)
  (ht:P.underlying t=some (.array N el)) (hs:(P.info? el).map (·.size)=some 1) (hN:N=l.length) (hv:Go.Proofs.YtipkniadbkndfaaGreatDoor.idx l a=some v):OpV P o e H (.d (.ref (.val (.int k v)))):=
 .of_same λE C w f m p=>by
  have u:=zt.1 (p x (by grind [Op.operands]) _ hx);have A:=zt.1 (p i (by grind [Op.operands]) _ hi);obtain ⟨n,rfl,B,y⟩:=idxS hv;obtain ⟨z,r⟩:=m.own.glob _ hg;cases c:P.info? el with
  | none=>simp_all
  | some inf=>
   have h:inf.size=1:=by simp_all
   refine ⟨.pointer (some ⟨g,n,none⟩),?_,?_⟩
   ·have b:(0:Int)≤n∧(n:Int)<N:=by simp_all
    simp only [execOp,ho,u,A,Instr.indexAt,asIntOf,Sem.run_bind,Sem.run_pure,Result.andThen_ok,run_underlying ht,Instr.sureAddr];rw [if_pos b];simp [sizeOf,typeInfo,c,h,Addr.add_lit]
   ·refine ⟨g,n,.int k v,rfl,z,(yk.1 r).1,rfl,λq F=>?_⟩;have s:q=0:=by grind [Value.cells]
    rw [zV r]
    grind [Value.cells]
end
end
section
variable [ztC] [Drw]
theorem R.zyp {C bs T H a w i g k el xs ys cur new} (hR:R C bs ⟨T,H⟩ a w) (hi:H[i]? = some (.vec el k xs)) (hb:bs[i]? = some (some g))
  (hheap:w.heap[g]? = some (.cells cur el (0,0))) (hnew:new.size=cur.size) (hl:ys.length=xs.length) (hfl:D.flat (Own C.A0 bs) w k ys (new.toList.take (xs.length*k))) (h0:0<xs.length) :
  R C bs ⟨T,H.set i (.vec el k ys)⟩ a (w.setRow g new):=by
 have d:Fr (λc=>some g=some c) w (w.setRow g new):=⟨rfl,rfl,rfl,by simp,λc _ o=>setRow_other w g c _ (λe=>o (by rw [e])),λ_=>ym _⟩
 have s:bs.set i (some g)=bs:=by
  refine y8 λq=>?_
  grind
 have p:∀ c,some g=some c→Own C.A0 bs c:=λc E=>.inr (by grind)
 have u:=R.upd (y:=.vec el k ys) (c:=some g) (c':=some g) hR hi hb (by
  simp only [Compat];refine .inr ⟨hl,trivial,trivial,λv n z G F=>?_⟩;rcases z.2 with ⟨h,A⟩ | ⟨B,f,t,r,_,b,j,l,x,m⟩
  ·omega
  obtain rfl:g=B:=by grind [Value.ownBlock]
  rw [hheap] at b;refine ⟨new.toList.take (xs.length*k),⟨?_,.inr ⟨g,f,new,by rw [r],yo _,setRow_heap w g cur _ el _ hheap,j,l,by grind,rfl⟩⟩,D.ztU d p (λc _ E=>by grind) _ _ hfl⟩;simp_all) d (.inl rfl) (by grind [Blk.rep])
 grind
theorem V.asSub {A w bs H i n v} (h:V.rep A w bs H (.vec i n) v):V.rep A w bs H (.sub i n 0 n) v:=by
 simp only [V.rep] at h ⊢;split at h
 ·refine ⟨h.1,λj=>?_⟩;obtain ⟨a,c,e,f⟩:=h.2 j;refine ⟨v,a,c,e,f,yo _,ym _,?_⟩;rcases c.2 with ⟨rfl,l⟩ | ⟨g,b,k,rfl,_,_,d,_,_,_⟩
  ·grind
  ·exact ⟨_,b,rfl,by omega,λ_=>⟨g,by simp [Value.ownBlock],by simp⟩⟩
 ·trivial
 grind
theorem TriL.asSub {P C ops rest Q T H} (t) {i n} (ht:look t T=some (.vec i n))
  (k:TriL P C ops rest Q ⟨(t,.sub i n 0 n)::T,H⟩):TriL P C ops rest Q ⟨T,H⟩:=⟨λ_ a w b=>k.run _ a w (b.know (b.tmp t _ ht).1 (V.asSub (b.tmp t _ ht).2))⟩
def zeI {α:Type} (xs:List α) (lo hi:Nat) (ys:List α):List α:=xs.take lo++(ys.take (hi - lo)++xs.drop (lo+min (hi - lo) ys.length))
omit [ztC] [Drw] in
theorem zdq {α} {xs} {lo hi} {ys:List α} (h1:lo≤hi) (h2:hi≤xs.length):(zeI xs lo hi ys).length=xs.length:=by
 grind [zeI]
theorem D.zuK {A w k}:∀ {xs} {cells} (n),D.flat A w k xs cells→D.flat A w k (xs.take n) (cells.take (n*k))∧D.flat A w k (xs.drop n) (cells.drop (n*k))
 | xs,cells,0,h=>by grind [D.flat]
 | [],cells,n+1,h=>by grind [D.flat]
 | x::xs,cells,n+1,h=>by
  obtain ⟨u,a,rfl,j,g,f⟩:=h;obtain ⟨l,i⟩:=D.zuK n f;have e:(n+1)*k=k+n*k:=by grind
  have b:u.cells.toList.length=k:=by grind
  have d:(u.cells.toList++a).take (k+n*k)=u.cells.toList++a.take (n*k):=by
   grind
  have c:(u.cells.toList++a).drop (k+n*k)=a.drop (n*k):=by
   rw [List.drop_append,b,List.drop_eq_nil_of_le (by grind),Nat.add_sub_cancel_left,yO]
  rw [List.take_succ_cons,List.drop_succ_cons,e,d,c];simp only [D.flat]
  grind
theorem zqA {P} (w dT sT ty elem k n dp sp dLen dCap sLen sCap) (hu:P.underlying dT=some (.slice elem)) (hsz:(P.info? elem).map (·.size)=some k) (hn:n=Nat.min sLen dLen)
  (g o) (cur) (t) (hg:w.heap[g]? = some (.cells cur t (0,0))) (cs) (hl:cs.length=n*k) (hd:0<n→dp=some ⟨g,o,none⟩) (hs:0<n→∃ ad,sp=some ad∧∀ j v,cs[j]? = some v→w.cell? (ad.add j)=some v)
  (hfit:o+cs.length≤cur.size) (h1:∀ v∈cs,v.oneCell'=true) :
  (Builtin.copy_ #[dT,sT] ty #[.slice dp dLen dCap,.slice sp sLen sCap]).run P w = .ok (goInt n) (if 0<n then w.setRow g (cur.toList.take o++cs++cur.toList.drop (o+cs.length)).toArray else w):=by
 cases hi:P.info? elem with
 | none=>grind
 | some inf=>
  have hq:inf.size=k:=by grind
  by_cases h0:0<n
  ·obtain ⟨ad,rfl,hsrc⟩:=hs h0;rw [hd h0];have hfc:=run_firstCells_some (P:=P) w k n ad sLen sCap cs hl hsrc;have hst:=run_storeCells_at P g o t cs 0 cur w hg (by grind) h1;subst hn;simp [Builtin.copy_,run_underlying hu,Builtin.lenOf,sizeOf,typeInfo,hi,hq,hfc,hst,h0]
  ·have hn0:n=0:=by omega
   subst hn0;have hcs:cs=[]:=yX (by grind);have:Nat.min sLen dLen=0:=hn.symm;cases dp <;> cases sp <;> simp [Builtin.copy_,run_underlying hu,Builtin.lenOf,Builtin.firstCells,loadCells,loadCellsFrom,sizeOf,typeInfo,hi,hq,this,storeCells]
section
variable {P:Program} {o:Oper} {e:Operand→Option V} {H:List Blk}
theorem OpV.subL {α} {t el el' x y} {i n k} {l r} {enc:α→D} {lo} (ho:o.op = .slice t x (some y) none none) (hx:e x=some (.vec i n)) (hi:H[i]? = some (.vec el' k (l.map enc))) (hn:n=l.length) (hy:e y=some (.d (.int lo)))
  (ht:P.underlying t=some (.slice el)) (hs:(P.info? el).map (·.size)=some k) (hr:cut l lo (l.length:Int)=some r):OpV P o e H (.sub i n lo.toNat n):=by
 obtain ⟨a,b,rfl,hb,h1,h2,rfl⟩:=cutS hr;have hb':l.length=b:=by omega
 subst hb';refine .of_same λA0 bs w f _ hf=>?_
 have e1:=hf x (by grind [Op.operands]) _ hx;have e2:=zt.1 (hf y (by grind [Op.operands]) _ hy);simp only [V.rep,hi] at e1;obtain ⟨cells,g1,g2,g3⟩:=e1.2 (by grind);cases hinf:P.info? el with
 | none=>grind
 | some inf=>
  have hsz:inf.size=k:=by simpa [hinf] using hs
  have hel:P.elem t=el:=by simp [Program.elem,ht]
  have hck:P.cellsOf el=k:=by grind [Program.cellsOf]
  have main:∀ (ad:Option Addr) (cap:Nat),f x = .slice ad n cap→n≤cap→(∀ g,ad=some g→∃ b,(f x).ownBlock=some b∧g=⟨b,0,none⟩)→(0<n→ad.isSome=true)→∃ u,(execOp f o).run P w = .ok (.value u) w∧V.rep (Own A0 bs) w bs H (.sub i n ((a:Int)).toNat n) u:=by
   intro ad cap hp hnc hg hne;refine ⟨sliced ad a n cap k,?_,?_⟩
   ·have:=run_slice_l (P:=P) w t ad n cap (by rw [hel];exact ht) .i64 a (by omega) (by omega);rw [hel,run_sizeOf w hinf,hck] at this;simp only [yt,Result.andThen_ok] at this;simp only [execOp,ho,hp,e2,yR,Option.map_none,Sem.run_bind,run_sliceAt_slice w t _ _ _ _ (by rw [hel];exact ht),this,Result.andThen_ok,Sem.run_pure]
   ·simp only [V.rep,hi,yt];refine ⟨e1.1,λ_=>⟨f x,cells,g1,g2,g3,by omega,ym _,if cap=a then ad else ad.map (·.add (a*k)),cap - a,rfl,by omega,λhlt=>?_⟩⟩;have hso:=hne (by omega);cases ad with
    | none=>simp at hso
    | some g=>
     obtain ⟨b,hb1,rfl⟩:=hg g rfl;exact ⟨b,hb1,by rw [if_neg (by omega)];simp [Addr.add_lit]⟩
  rcases g1.2 with ⟨h,h0⟩ | ⟨g,cap,cur,hh,_,_,hnc,_,_,_⟩
  ·exact main none 0 (by rw [h,h0]) (by omega) (λg h=>(by cases h)) (λh=>by omega)
  ·exact main (some ⟨g,0,none⟩) cap hh hnc (λg' h=>⟨g,by rw [hh];simp [Value.ownBlock],by simpa using h.symm⟩) (λ_=>rfl)
theorem OpV.subH {α} {t el el' x y} {i n k} {l r} {enc:α→D} {hi'} (ho:o.op = .slice t x none (some y) none) (hx:e x=some (.vec i n)) (hi:H[i]? = some (.vec el' k (l.map enc))) (hn:n=l.length) (hy:e y=some (.d (.int hi')))
  (ht:P.underlying t=some (.slice el)) (hs:(P.info? el).map (·.size)=some k) (hr:cut l 0 hi'=some r):OpV P o e H (.sub i n 0 hi'.toNat):=by
 obtain ⟨z,b,hz,rfl,h1,h2,rfl⟩:=cutS hr;refine .of_same λA0 bs w f _ hf=>?_
 have e1:=hf x (by grind [Op.operands]) _ hx;have e2:=zt.1 (hf y (by grind [Op.operands]) _ hy);simp only [V.rep,hi] at e1;obtain ⟨cells,g1,g2,g3⟩:=e1.2 (by grind);cases hinf:P.info? el with
 | none=>grind
 | some inf=>
  have hsz:inf.size=k:=by grind
  have hel:P.elem t=el:=by grind [Program.elem]
  have hck:P.cellsOf el=k:=by grind [Program.cellsOf]
  have main:∀ (ad:Option Addr) (cap:Nat),f x = .slice ad n cap→n≤cap→(∀ g,ad=some g→∃ b,(f x).ownBlock=some b∧g=⟨b,0,none⟩)→(0<n→ad.isSome=true)→∃ u,(execOp f o).run P w = .ok (.value u) w∧V.rep (Own A0 bs) w bs H (.sub i n 0 ((b:Int)).toNat) u:=by
   intro ad cap hp hnc hg hne;refine ⟨sliced ad 0 b cap k,?_,?_⟩
   ·have:=run_slice_h (P:=P) w t ad n cap (by rw [hel];exact ht) .i64 b (by omega) (by omega);rw [hel,run_sizeOf w hinf,hck] at this;simp only [yt,Result.andThen_ok] at this;simp only [execOp,ho,hp,e2,yR,Option.map_none,Sem.run_bind,run_sliceAt_slice w t _ _ _ _ (by rw [hel];exact ht),this,Result.andThen_ok,Sem.run_pure]
   ·simp only [V.rep,hi,yt];refine ⟨e1.1,λ_=>⟨f x,cells,g1,g2,g3,yo _,by omega,if cap=0 then ad else ad.map (·.add (0*k)),cap,rfl,by omega,λhlt=>?_⟩⟩;have hso:=hne (by omega);cases ad with
    | none=>simp at hso
    | some g=>
     obtain ⟨b,hb1,rfl⟩:=hg g rfl;exact ⟨b,hb1,by rw [if_neg (by omega)];simp [Addr.add_lit]⟩
  rcases g1.2 with ⟨h,h0⟩ | ⟨g,cap,cur,hh,_,_,hnc,_,_,_⟩
  ·exact main none 0 (by rw [h,h0]) (by omega) (λg h=>(by cases h)) (λh=>by omega)
  ·exact main (some ⟨g,0,none⟩) cap hh hnc (λg' h=>⟨g,by rw [hh];simp [Value.ownBlock],by simpa using h.symm⟩) (λ_=>rfl)
end
theorem zmu {A w k xs ys zs a b c} (h1:D.flat A w k xs a) (h2:D.flat A w k ys b) (h3:D.flat A w k zs c):D.flat A w k (xs++(ys++zs)) (a++(b++c)):=D.zvb h1 (D.zvb h2 h3)
theorem take3 {α:Type} {A B C:List α} {n a c} (hA:A.length=a) (hB:B.length=c) (h:a+c≤n):(A++(B++C)).take n=A++(B++C.take (n - a - c)):=by
 grind [List.take_append,List.take_of_length_le]
inductive zxP (e:Operand→Option V) (H:List Blk) (k:Nat) {α:Type} (enc:α→D) (y:Operand):List α→Prop
 | d {ys:List α}:e y=some (.d (.sl k (ys.map enc)))→zxP e H k enc y ys
 | sub {i n lo hi:Nat} {el:TypeId} {l:List α}:e y=some (.sub i n lo hi)→H[i]? = some (.vec el k (l.map enc))→n=l.length→zxP e H k enc y ((l.drop lo).take (hi - lo))
theorem zxP.reads {C bs T H a w} (hR:R C bs ⟨T,H⟩ a w) {k} {α} {enc} {y} {ys:List α} (h:zxP (ev T) H k enc y ys) :
  ∃ sp cap cells,a.eval y = .slice sp ys.length cap∧D.flat (Own C.A0 bs) w k (ys.map enc) cells∧(0<ys.length→∃ ad,sp=some ad∧∀ j v,cells[j]? = some v→w.cell? (ad.add j)=some v):=by
 cases h with
 | d hy=>
  have h1:=hR.ev hy;simp only [V.rep,D.rep,yK] at h1;obtain ⟨ad,cap,hp,hcap,hrow⟩:=h1;rcases hrow with hnil | ⟨b,off,rfl,_,_,hrow⟩
  ·have:ys=[]:=by simp_all
   subst this;exact ⟨ad,cap,[],hp,by simp [D.flat],λh=>by simp at h⟩
  ·obtain ⟨cells,h1,h2⟩:=D.zwi _ _ hrow;exact ⟨_,cap,cells,hp,h1,λ_=>⟨_,rfl,λj v hv=>by grind [Addr.add_lit]⟩⟩
 | sub hy hi hn=>
  rename_i i n lo hh el l;have h1:=hR.ev hy;simp only [V.rep,hi] at h1;obtain ⟨hdr,cells,g1,g2,g3,glo,ghi,ad,cap,hp,hcap,hne⟩:=h1.2 (by grind);have hlen:((l.drop lo).take (hh - lo)).length=hh - lo:=by grind
  have hsp:=(D.zuK (hh - lo) (D.zuK lo g3).2).1;refine ⟨ad,cap,(cells.drop (lo*k)).take ((hh - lo)*k),by grind,by simp_all,λh0=>?_⟩;rw [hlen] at h0;obtain ⟨b,hb,rfl⟩:=hne (by omega);refine ⟨_,rfl,λj v hv=>?_⟩;rcases g1.2 with ⟨rfl,_⟩ | ⟨g,cp,cur,rfl,_,_,_,_,_,_⟩
  ·grind
  ·obtain rfl:g=b:=by simpa [Value.ownBlock] using hb
   rw [List.getElem?_take] at hv;split at hv
   ·rw [List.getElem?_drop] at hv;have:=g1.cells (g:=g) rfl _ _ hv;rw [Addr.add_mid] at this;rw [Addr.add_lit];simpa using this
   ·cases hv
theorem TriL.zxW {P} {C} {ops} {o:Oper} {rest} {Q} {T} {H} {α} {t t' el} {x y} {i n lo hi k bytes d:Nat} {enc} {l ys:List α}
  (hg:o.guard=none) (ho:o.op = .call { callee:=.builtin .copy,args:=#[x,y],argTypes:=#[t,t'] }) (hd:o.dst=some d) (hdn:Nat.blt d C.n=true) (he:zbK P t el k bytes=true) (hx:ev T x=some (.sub i n lo hi)) (hi':H[i]? = some (.vec el k (l.map enc))) (hn:n=l.length)
  (hy:zxP (ev T) H k enc y ys) (h1:∀ x,(enc x).ones=true)
  (kk:TriL P C ops rest Q ⟨(d,.d (.int (min (hi - lo) ys.length:Nat)))::T,H.set i (.vec el k ((zeI l lo hi ys).map enc))⟩):TriL P C ops (o::rest) Q ⟨T,H⟩:=by
 obtain ⟨htu,hk0,inf,z,hinf,hz,hisz,hib,hzc⟩:=zby he;refine TriL.step hg (λbs a w hR=>?_) kk;have hxr:=hR.ev hx;simp only [V.rep,hi'] at hxr;obtain ⟨hdr,cells,g1,g2,g3,glo,ghi,ad,cap,hp,hcap,hne⟩:=hxr.2 (by grind);obtain ⟨sp,scap,scells,hs,hsf,hsr⟩:=hy.reads hR;have hsl:=D.zuP hsf;simp only [yK] at hsl;obtain ⟨c,hc⟩:∃ c,c=min (hi - lo) ys.length:=⟨_,rfl⟩
 have hc1:c≤hi - lo:=by omega
 have hc2:c≤ys.length:=by omega
 have htk:scells.take (c*k)=scells.take (c*k):=rfl;have hckl:(scells.take (c*k)).length=c*k:=by simp_all
 have hfl1:=(D.zuK c hsf).1;have hone:∀ v∈scells.take (c*k),v.oneCell'=true:=D.zvx (λq hq=>by
  grind) hfl1
 have hset:bs.set i hdr.ownBlock=bs:=by
  refine y8 λq=>?_
  grind
 by_cases h0:0<c
 ·obtain ⟨b,hb,rfl⟩:=hne (by omega);rcases g1.2 with ⟨rfl,_⟩ | ⟨g,cp,cur,rfl,_,hheap,hnc,hcm,hcs,htake⟩
  ·simp [Value.ownBlock] at hb
  obtain rfl:g=b:=by simpa [Value.ownBlock] using hb
  have hnk:n*k≤cp*k:=yN _ hnc;have hlock:lo*k+c*k≤n*k:=by rw [← Nat.add_mul];exact yN _ (by omega)
  have hrun:=zqA (P:=P) w t t' o.type el k c (some ⟨g,lo*k,none⟩) sp (hi - lo) cap ys.length scap htu (by simp [hinf,hisz]) (by rw [hc];exact Nat.min_comm _ _) g (lo*k) cur el hheap (scells.take (c*k)) hckl (λ_=>rfl) (λ_=>by
   obtain ⟨ad,h2,h3⟩:=hsr (by omega);exact ⟨ad,h2,λj v hv=>h3 j v (by rw [List.getElem?_take] at hv;split at hv;exact hv;cases hv)⟩) (by rw [hckl,hcs];omega) hone
  rw [if_pos h0,hckl] at hrun;obtain ⟨new,hnew⟩:∃ new:Array Value,new=(cur.toList.take (lo*k)++scells.take (c*k)++cur.toList.drop (lo*k+c*k)).toArray:=⟨_,rfl⟩
  rw [← hnew] at hrun;have hex:(execOp a.eval o).run P w = .ok (.value (goInt c)) (w.setRow g new):=by
   simp only [execOp,ho,resolve,invoke,builtin];simp [hp,hs,hrun]
  have hnsz:new.size=cur.size:=by
   rw [hnew];simp only [uJ,yQ,ug,ua,yF,hckl,hcs];omega
  have hcopy:(zeI l lo hi ys).map enc=(l.map enc).take lo++((ys.map enc).take c++(l.map enc).drop (lo+c)):=by
   have e1:ys.take (hi - lo)=ys.take c:=by
    by_cases hle:hi - lo≤ys.length
    ·rw [show c=hi - lo by omega]
    ·rw [List.take_of_length_le (by omega),show c=ys.length by omega,List.take_length]
   simp only [zeI,ul,e1,List.map_take,List.map_drop,← hc]
  have hflat:D.flat (Own C.A0 bs) w k ((zeI l lo hi ys).map enc) (new.toList.take ((l.map enc).length*k)):=by
   rw [hcopy];have t1:=(D.zuK lo g3).1;have t3:=(D.zuK (lo+c) g3).2;have:=zmu t1 hfl1 t3;have e2:new.toList.take ((l.map enc).length*k)=cells.take (lo*k)++(scells.take (c*k)++cells.drop ((lo+c)*k)):=by
    rw [hnew,yK,← hn,← htake];simp only [List.toList_toArray,yJ];have l1:(cur.toList.take (lo*k)).length=lo*k:=by rw [ug,yF,hcs];omega
    rw [take3 l1 hckl hlock,List.take_take,Nat.min_eq_left (by omega),List.drop_take,Nat.add_mul,Nat.sub_sub]
   rw [e2];exact this
  have hT:=hR.zyp hi' (by rw [g2];rfl) hheap hnsz (by simp [zdq glo (by omega:hi≤l.length)]) hflat (by simp;omega)
  have hput:=hT.put (Fr.refl _ _) (some d) (by simpa [zt2] using hdn) (v:=.d (.int (min (hi - lo) ys.length:Nat))) (u:=goInt c) (by simp only [V.rep,D.rep,goInt,hc]);refine ⟨_,_,bs,hex,.inl ⟨_,rfl,?_⟩⟩;rw [hd];exact hput
 ·have hc0:c=0:=by omega
  have hcopy:zeI l lo hi ys=l:=by
   have e1:ys.take (hi - lo)=[]:=by
    rcases Nat.eq_zero_or_pos (hi - lo) with h | h
    ·rw [h,List.take_zero]
    ·have:ys=[]:=yX (by omega);rw [this,List.take_nil]
   simp only [zeI,e1,yO,← hc,hc0,uy,uz]
  have hrun:(Builtin.copy_ #[t,t'] o.type #[.slice ad (hi - lo) cap,.slice sp ys.length scap]).run P w = .ok (goInt 0) w:=by
   have hm:Nat.min ys.length (hi - lo)=0:=by rw [Nat.min_comm] at hc;exact hc.symm.trans hc0
   cases ad <;> cases sp <;> simp [Builtin.copy_,run_underlying htu,Builtin.lenOf,Builtin.firstCells,loadCells,loadCellsFrom,sizeOf,typeInfo,hinf,hm,storeCells]
  have hex:(execOp a.eval o).run P w = .ok (.value (goInt 0)) w:=by
   simp only [execOp,ho,resolve,invoke,builtin];simp [hp,hs,hrun]
  have hput:=hR.put (Fr.refl _ _) (some d) (by simpa [zt2] using hdn) (v:=.d (.int (min (hi - lo) ys.length:Nat))) (u:=goInt 0) (by simp only [V.rep,D.rep,goInt,← hc,hc0];rfl);refine ⟨_,_,bs,hex,.inl ⟨_,rfl,?_⟩⟩;rw [hd,hcopy];have:H.set i (.vec el k (l.map enc))=H:=by
   obtain ⟨q1,q2⟩:=yc.1 hi';rw [← q2,List.set_getElem_self]
  rw [this];exact hput
omit [ztC] [Drw] in
theorem zjM {α} (xs) (ys:List α):(zeI xs 0 xs.length ys).length=xs.length:=zdq (yo _) (ym _)
theorem zg4 {α} {xs r} {lo} (h:cut xs lo (xs.length:Int)=some r) (ys:List α):(zeI xs lo.toNat xs.length ys).length=xs.length:=by
 obtain ⟨a,b,rfl,d,e,c,rfl⟩:=cutS h;exact zdq (by grind) (ym _)
def shrO (k:IntKind) (a b:Int):Option Int:=if b<0 then none else some (a.fdiv (2 ^ min b.toNat k.bits))
section
variable {P:Program} {o:Oper} {e:Operand→Option V} {H:List Blk}
theorem OpV.shr {t u x y k j a b c} (ho:o.op = .binOp .shr t x y u) (hx:e x=some (.d (.val (.int k a)))) (hy:e y=some (.d (.val (.int j b)))) (hc:shrO k a b=some c):OpV P o e H (.d (.val (.int k c))):=
 .of_same λ_ _ w f _ g=>by
  have i:=zt.1 (g x (by grind [Op.operands]) _ hx);have l:=zt.1 (g y (by grind [Op.operands]) _ hy);unfold shrO at hc;split at hc
  ·cases hc
  ·rename_i h;cases hc;refine ⟨_,?_,zt.2 rfl⟩;simp [execOp,ho,i,l,eqGuard_at_int,binOp,Op.shift,h]
end
theorem Tri.keep {P C c Q s} (H ks) {K} (hK:Looks s.T ks K) (hH:s.H=H) (k:Tri P C c Q ⟨K,H⟩):Tri P C c Q s:=
 Tri.le ⟨hH,hK.sub⟩ k
end
section
variable [ztC] [Drw]
mutual
theorem V.zuN {m n} (h:m≤n):∀ (x:V),x.under m=true→x.under n=true
 | .d _,_=>rfl
 | .junk,_=>rfl
 | .loc i _,hx | .vec i _,hx | .arr i _ _,hx | .el i _ _ _,hx | .sub i _ _ _,hx | .mp i,hx | .itp i,hx | .que i _,hx | .qel i _ _,hx=>by
  simp only [V.under,uG] at hx ⊢;omega
 | .agg cs,hx | .tup cs,hx=>by simp only [V.under] at hx ⊢;exact V.zvs h cs hx
 | .fn _ a b,hx=>by
  simp only [V.under,yd] at hx ⊢;exact ⟨V.zvs h a hx.1,V.zvs h b hx.2⟩
theorem V.zvs {m n} (h:m≤n):∀ (xs:List V),V.zvJ m xs=true→V.zvJ n xs=true
 | [],_=>rfl
 | x::xs,hx=>by
  simp only [V.zvJ,yd] at hx ⊢;exact ⟨V.zuN h x hx.1,V.zvs h xs hx.2⟩
end
def zbE:Nat→List V→List (Nat×V)
 | _,[]=>[]
 | i,x::xs=>(i,x)::zbE (i+1) xs
theorem zcL {A w bs H}:∀ (xs) (i) (vs) (tmps:Array Value),V.reps A w bs H xs vs→(∀ j,j<vs.length→tmps.getD (i+j) undef=vs.getD j undef)→i+vs.length≤tmps.size →
  ∀ t v,look t (zbE i xs)=some v→t<tmps.size∧V.rep A w bs H v (tmps.getD t undef)
 | [],_,_,_,_,_,_,t,v,h=>by grind [zbE,look]
 | x::xs,i,vs,tmps,f,b,d,t,v,h=>by
  obtain ⟨u,a,rfl,k,g⟩:=f;simp only [zbE,zbc] at h;simp only [yU] at d;split at h <;> rename_i e
  ·have:=b 0 (by simp)
   grind
  ·exact zcL xs (i+1) a tmps g (λj c=>by
    have:=b (j+1) (by simp_all)
    grind) (by omega) t v h
def ResV:St→List ResultVar→List V→Prop
 | _,[],vs=>vs=[]
 | s,.tmp t::rs,vs=>∃ v vs',vs=v::vs'∧look t s.T=some v∧ResV s rs vs'
 | _,.cell _ _::_,_=>False
def zdw:List V→V
 | [v]=>v
 | vs=>.tup vs
def retV (rs:List ResultVar) (K:V→List Blk→Prop) (e:Exit) (s:St):Prop:=
 (e = .ret∨e = .normal)∧∃ vs,ResV s rs vs∧K (zdw vs) s.H
theorem zmZ {P C bs s a w} (hR:R C bs s a w):∀ (rs) (xs),ResV s rs xs →
  ∃ vs:List Value,(rs.mapM (zeb a.tmps)).run P w = .ok vs w∧V.reps (Own C.A0 bs) w bs s.H xs vs
 | [],xs,h=>by subst h;exact ⟨[],by simp,by simp [V.reps]⟩
 | .tmp t::rs,xs,h=>by
  obtain ⟨v,b,rfl,d,e⟩:=h;obtain ⟨vs,f,c⟩:=zmZ (P:=P) hR rs b e;refine ⟨a.tmps.getD t undef::vs,?_,?_⟩
  ·grind [Sem.run_bind,zeb,Sem.run_pure,Result.andThen_ok]
  ·exact ⟨_,_,rfl,(hR.tmp t v d).2,c⟩
 | .cell _ _::_,_,h=>by grind [ResV]
theorem V.zuL {A w bs H}:∀ {xs} {vs},V.reps A w bs H xs vs→vs.length=xs.length
 | [],vs,h=>by grind [V.reps]
 | x::xs,vs,h=>by
  obtain ⟨v,b,rfl,_,a⟩:=h;simp [V.zuL a]
theorem zl5 {P C bs s a w fn xs} (hR:R C bs s a w) (h:ResV s fn.results.toList xs) :
  ∃ u,(results fn a.tmps).run P w = .ok u w∧V.rep (Own C.A0 bs) w bs s.H (zdw xs) u:=by
 obtain ⟨c,d,b⟩:=zmZ (P:=P) hR fn.results.toList xs h;have g:=V.zuL b;have j:(fn.results.mapM (zeb a.tmps)).run P w = .ok c.toArray w:=by
  rw [← Array.toArray_toList (xs:=fn.results),List.mapM_toArray];simp_all
 rw [zbU];simp only [Sem.run_bind,j,Result.andThen_ok,Sem.run_pure]
 match xs,c,b,g with
 | [x],[u],b,_=>
  obtain ⟨_,_,e,l,_⟩:=b
  grind [zdw]
 | [],[],b,_=>grind [V.rep,zdw]
 | n::o::m,i::k::c,b,_=>
  have f:¬ (i::k::c).toArray.size=1:=by simp
  simp only [V.rep,zdw];simp_all
structure zvk (P:Program) (o:Oper) (e:Operand→Option V) (f:FuncId) (xs:List V):Prop where
 run:∀ (A:Nat→Prop) (w:World) (bs:List (Option Nat)) (H:List Blk) (g:Operand→Value),(∀ x∈o.op.operands,∀ y,e x=some y→V.rep A w bs H y (g x))→(∀ k,g (.func k) = .func (.func k) #[] #[]) →
  ∃ vs:Array Value,(execOp g o).run P w = .ok (.enter f vs) w∧V.reps A w bs H xs vs.toList
theorem zvk.stat {P o e f args tys xs} (ho:o.op = .call { callee:=.value (.func f),args:=args,argTypes:=tys }) (hc:ztF P f=true)
  (ha:evsV e args.toList=some xs):zvk P o e f xs:=by
 refine ⟨λA w bs H g a c=>⟨args.map g,?_,?_⟩⟩
 ·grind [execOp,resolve,Deferred.ofValue,invoke,zaX]
 ·have:=zhA (A:=A) (w:=w) (bs:=bs) (H:=H) (f:=g) ha (λx b=>a x (by grind [Op.operands,Call.operands]));simp_all
theorem zvk.clos {P o e x f args tys xs caps} (ho:o.op = .call { callee:=.value x,args:=args,argTypes:=tys }) (hx:e x=some (.fn (.func f) [] caps)) (hc:ztF P f=true)
  (ha:evsV e args.toList=some xs):zvk P o e f (xs++caps):=by
 refine ⟨λA w bs H g c l=>?_⟩;have i:=c x (by grind [Op.operands,Call.operands]) _ hx;obtain ⟨h,j,k,b,a⟩:=i;simp only [V.reps] at b;have d:h = #[]:=by simp_all
 refine ⟨args.map g++j,?_,?_⟩
 ·grind [execOp,resolve,Deferred.ofValue,invoke,zaX]
 ·have:=zhA (A:=A) (w:=w) (bs:=bs) (H:=H) (f:=g) ha (λx hx=>c x (by grind [Op.operands,Call.operands]));have:=V.zt6 this a;simp_all
def vals (a:Act):List (Nat×V)→List (Nat×V)→List (V×Value)
 | _,[]=>[]
 | T,(t,_)::r=>match look t T with | some v=>(v,a.tmps.getD t undef)::vals a T r | none=>vals a T r
theorem zdP {a T}:∀ {L} {p},p∈vals a T L→∃ t,look t T=some p.1∧p.2=a.tmps.getD t undef
 | [],p,h=>by grind [vals]
 | (t,x)::r,p,h=>by
  simp only [vals] at h;split at h <;> rename_i e
  ·rcases yG.1 h with rfl | h
   ·grind
   ·exact zdP h
  ·exact zdP h
theorem zdv {a T t v} (ht:look t T=some v):∀ {L} {x},look t L=some x→(v,a.tmps.getD t undef)∈vals a T L
 | [],x,h=>by grind [look]
 | (u,y)::r,x,h=>by
  simp only [zbc] at h;simp only [vals];split at h <;> rename_i e
  ·simp_all
  ·have:=zdv (a:=a) ht h
   grind
theorem zdk {T n t v} (h:(T.all λp=>p.2.under n)=true):look t T=some v→v.under n=true:=by
 induction T with
 | nil=>grind [look]
 | cons p L ih=>
  grind [zbc]
theorem TriL.zx2 {P C ops o rest Q T H f fn c xs N} {rs}
  (hg:o.guard=none) (hd:zt2 o.dst C.n=true) (hc:zvk P o (ev T) f xs) (hf:P.funcs[f]? = some fn) (hb:fn.body=some c) (hN:fn.ntmps=N) (hrs:fn.results=rs.toArray) (hn:Nat.ble xs.length N=true)
  (hu:(T.all λp=>p.2.under H.length)=true) (hgn:Nat.ble C.gn H.length=true)
  (h:∀ (own0:Nat→Prop) (w:World) (gh:List (V×Value)),(∀ b,C.own0 b→own0 b)→(∀ p∈C.gh,p∈gh)→Tri P ⟨C.A0,own0,w,N,λ_ _=>False,gh,H.length,[]⟩ c (retV rs λv H'=>TriL P C ops rest Q ⟨putT T o.dst v,H'⟩) ⟨zbE 0 xs,H⟩):TriL P C ops (o::rest) Q ⟨T,H⟩:=by
 subst hN;have hgn:=yq hgn;have hn:=yq hn;refine ⟨λbs a w hR=>wpList_plain hg λK hK=>?_⟩;obtain ⟨vs,hrun,hvs⟩:=hc.run (Own C.A0 bs) w bs H a.eval (λx _ y hx=>hR.ev hx) (λ_=>rfl);unfold Oper.wp;rw [hrun];simp only [Oper.upon];have hlen:=V.zuL hvs;simp only [yF] at hlen;refine calls_of_wp hf hb ?_;have h0:=h (λb=>C.own0 b∨some b∈bs) w (C.gh++vals a T T) (λb hb=>.inl hb) λp hp=>List.mem_append_left _ hp
 have hR0:R ⟨C.A0,λb=>C.own0 b∨some b∈bs,w,fn.ntmps,λ_ _=>False,C.gh++vals a T T,H.length,[]⟩ bs ⟨zbE 0 xs,H⟩ { tmps:=vs++Array.replicate (fn.ntmps - vs.size) undef,defers:=[] } w:=by
  have hsz:(vs++Array.replicate (fn.ntmps - vs.size) undef).size=fn.ntmps:=by simp_all
  refine ⟨hR.own,hR.len,hR.blk,λt v hv=>?_,rfl,hsz,Fr.refl _ _,λb hb=>.inl (.inr hb),λp hp=>?_⟩
  ·have:=zcL xs 0 vs.toList (vs++Array.replicate (fn.ntmps - vs.size) undef) hvs
    (λj hj=>by
     have hj':j<vs.size:=by simp_all
     simp [y6,Array.getElem?_append,hj',List.getD])
    (by simp_all) t v hv
   rw [hsz] at this;exact this
  ·rcases yu.1 hp with hp | hp
   ·exact ⟨V.zuN hgn _ (hR.gh p hp).1,(hR.gh p hp).2⟩
   ·obtain ⟨t,h1,h2⟩:=zdP hp;exact ⟨zdk hu h1,by rw [h2];exact (hR.tmp t _ h1).2⟩
 refine Code.wp_mono ?_ (h0.run bs _ w hR0);rintro e a' w' (⟨bs',s',⟨he,ys,hres,hk⟩,hR'⟩ | ⟨_,hE⟩)
 case inr=>exact hE.elim
 obtain ⟨u,hu1,hu2⟩:=zl5 (P:=P) (fn:=fn) hR' (by rw [hrs];omega);have hRC:R C bs' ⟨T,s'.H⟩ a w':=by
  refine ⟨hR'.own,hR'.len,hR'.blk,λt v hv=>⟨(hR.tmp t v hv).1,(hR'.gh _ (List.mem_append_right _ (zdv hv hv))).2⟩,hR.defers,hR.size,?_,λb hb=>?_,λp hp=>⟨(hR.gh p hp).1,(hR'.gh p (List.mem_append_left _ hp)).2⟩⟩
  ·have f1:=hR'.fr;refine ⟨f1.os.trans hR.fr.os,f1.tape.trans hR.fr.tape,f1.output.trans hR.fr.output,yH hR.fr.size f1.size,λq hq hno=>?_,λd=>yH (hR.fr.drawn d) (f1.drawn d)⟩;refine (f1.block q (yA hq hR.fr.size) λe=>?_).trans (hR.fr.block q hq hno);rcases e with e | e
   ·simp_all
   ·rcases hR.new q e with e | e
    ·simp_all
    grind
  ·rcases hR'.new b hb with (h1 | h1) | h1
   ·simp_all
   ·exact hR.new b h1
   ·exact .inr (yH hR.fr.size h1)
 have hfin:K (a.put o.dst u) w':=by
  have:=hRC.put (Fr.refl _ _) o.dst hd hu2;rw [St.put_eq] at this;exact hK _ _ (hk.run bs' _ _ this)
 rcases he with rfl | rfl
 ·exact ⟨hR'.defers,u,hu1,hfin⟩
 ·exact ⟨hR'.defers,u,hu1,hfin⟩
theorem TriL.inline {P C ops o rest Q T H f fn c xs N} {rs}
  (hg:o.guard=none) (hd:zt2 o.dst C.n=true) (hc:zvk P o (ev T) f xs) (hf:P.funcs[f]? = some fn) (hb:fn.body=some c) (hN:fn.ntmps=N) (hrs:fn.results=rs.toArray) (hn:Nat.ble xs.length N=true)
  (hu:(T.all λp=>p.2.under H.length)=true) (hgn:Nat.ble C.gn H.length=true)
  (h:∀ (own0) (w) (gh),Tri P ⟨C.A0,own0,w,N,λ_ _=>False,gh,H.length,[]⟩ c (retV rs λv H'=>TriL P C ops rest Q ⟨putT T o.dst v,H'⟩) ⟨zbE 0 xs,H⟩):TriL P C ops (o::rest) Q ⟨T,H⟩:=
 TriL.zx2 hg hd hc hf hb hN hrs hn hu hgn λown0 w gh _ _=>h own0 w gh
theorem TriL.eqNil {P C ops o rest Q s t u el x k xs}
  (hg:o.guard=none) (hd:zt2 o.dst C.n=true) (ho:o.op = .binOp .eql t x (.const (.slice none 0 0)) u) (htu:P.underlying t=some (.slice el)) (hx:ev s.T x=some (.d (.sl k xs)))
  (kk:∀ b ,(b=true→xs=[])→TriL P C ops rest Q (s.put o.dst (.d (.bool b)))):TriL P C ops (o::rest) Q s:=by
 refine ⟨λn a w h=>wpList_plain hg λK m=>?_⟩;have l:=h.ev hx;obtain ⟨p,f,j,g,q⟩:=l;have c:∃ b:Bool,(b=true→xs=[])∧(execOp a.eval o).run P w = .ok (.value (.bool b)) w:=by
  refine ⟨p.isNone,λr=>?_,?_⟩
  ·simp_all
  ·simp only [execOp,ho,j];simp only [Act.eval];have e:(eqGuard BinOp.eql t x (Operand.const (Value.slice none 0 0)) (Value.slice p xs.length f) (Value.slice none 0 0)).run P w = .ok () w:=by simp [eqGuard]
   simp [e,Lib.run_eql_slice_nil w t el p xs.length f 0 0 htu]
 obtain ⟨b,i,c⟩:=c;unfold Oper.wp;rw [c];exact m _ _ ((kk b i).run n _ _ (h.put (Fr.refl _ _) o.dst hd (zt.2 rfl)))
def zfV (t:TypeId):Code:=
  (Code.region 0 #[{ dst := some 2, op := Op.assign (Operand.const (Value.slice none 0 0)), type := t, pos := "slices.go:355", after := #[], guard := none }] false).seq
    (((Code.region 1 #[{ dst := some 3, op := Op.move (Operand.tmp 0), type := t, pos := "slices.go:357", after := #[], guard := none },
        { dst := some 4, op := Op.binOp BinOp.eql t (Operand.tmp 3) (Operand.const (Value.slice none 0 0)) t, type := 4, pos := "slices.go:357", after := #[{ on := 0, ground := Ground.data }], guard := none }] false).seq
      (Code.cond (Operand.tmp 4)
        ((Code.region 2 #[{ dst := some 2, op := Op.assign (Operand.const (Value.slice none 0 0)), type := t, pos := "slices.go:358", after := #[], guard := none }] false).seq Code.ret)
        Code.skip)).seq
    ((Code.region 3 #[{ dst := some 5, op := Op.buildSlice t 0 #[], type := t, pos := "slices.go:362", after := #[], guard := none },
        { dst := some 6, op := Op.move (Operand.tmp 0), type := t, pos := "slices.go:362", after := #[], guard := none },
        { dst := some 7, op := Op.call { callee := Callee.builtin Builtin.append, args := #[Operand.tmp 5, Operand.tmp 6], argTypes := #[t, t] }, type := t, pos := "slices.go:362", after := #[{ on := 0, ground := Ground.data }, { on := 1, ground := Ground.data }], guard := none },
        { dst := some 2, op := Op.assign (Operand.tmp 7), type := t, pos := "slices.go:362",
          after:=#[{ on:=2,ground:=Ground.data },{ on:=2,ground:=Ground.chain },{ on:=0,ground:=Ground.phase },{ on:=1,ground:=Ground.phase },{ on:=2,ground:=Ground.phase }],guard:=none }] false).seq
      Code.ret))
theorem TriL.clone {P} {C} {ops} {o:Oper} {rest} {Q} {T} {H} {f} {fn} {x} {tys} {α} {t el} {k bytes d:Nat} {enc} {xs zs:List α}
  (hg:o.guard=none) (ho:o.op = .call { callee:=.value (.func f),args:=#[x],argTypes:=tys }) (hd:o.dst=some d) (hdn:Nat.blt d C.n=true) (hcl:ztF P f=true) (hf:P.funcs[f]? = some fn) (hbody:fn.body=some (zfV t)) (hN:fn.ntmps=8) (hrs:fn.results = #[.tmp 2])
  (hx:ev T x=some (.d (.sl k (xs.map enc)))) (ht:zbK P t el k bytes=true) (hb:Nat.blt 0 bytes=true) (hones:∀ z,(enc z).ones=true) (hk:∀ x,(enc x).kOK k=true) (hv:Go.Proofs.YtipkniadbkndfaaGreatDoor.app bytes [] xs=some zs)
  (hu:(T.all λp=>p.2.under H.length)=true) (hgn:Nat.ble C.gn H.length=true)
  (kk:TriL P C ops rest Q ⟨(d,.vec H.length zs.length)::T,H++[.vec el k (zs.map enc)]⟩):TriL P C ops (o::rest) Q ⟨T,H⟩:=by
 have j:zs=xs:=by have:=(appS hv).1;simp_all
 have g:=(zby ht).1;have a:(H++[Blk.vec el k (List.map enc [])])[H.length]? = some (.vec el k (List.map enc [])):=by simp
 have c:(H++[Blk.vec el k (List.map enc [])]).set H.length (.vec el k (zs.map enc))=H++[.vec el k (zs.map enc)]:=by simp
 refine TriL.inline (rs:=[.tmp 2]) (xs:=[.d (.sl k (xs.map enc))]) hg (by grind [zt2]) (zvk.stat ho hcl (by grind [evsV])) hf hbody hN hrs rfl hu hgn λh w l=>?_
 refine .seq (.region (.op rfl rfl (.assign rfl rfl) (.nil ?_)));refine .seq (.seq (.region (.op rfl rfl (.move rfl rfl) (.eqNil rfl rfl rfl g rfl λb e=>.nil ?_))));refine .cond (t:=b) rfl (λi=>?_) (λ_=>.skip ?_)
 ·have e:xs=[]:=by simp_all
  subst e;subst j;refine .seq (.region (.op rfl rfl (.assign rfl rfl) (.nil ?_)));refine .zvI 2 k el rfl (.ret ⟨.inl rfl,[.vec H.length 0],⟨_,[],rfl,rfl,rfl⟩,?_⟩);rw [hd];exact kk
 ·refine .seq (.region (.zwf (α:=α) (enc:=enc) [] rfl rfl rfl rfl rfl ht rfl hk (by simp_all) ?_));refine .op rfl rfl (.move rfl rfl) ?_;refine .app rfl rfl rfl rfl rfl a rfl rfl ht hb hones hv ?_;refine .op rfl rfl (.assign rfl rfl) (.nil ?_);refine .ret ⟨.inl rfl,[.vec H.length zs.length],⟨_,[],rfl,rfl,rfl⟩,?_⟩;rw [hd];simp only [St.put,c];exact kk
def optD {α:Type} (enc:α→D):Option α→D
 | none=>.val (.pointer none)
 | some x=>.ref (enc x)
theorem zsr {α} {enc} {o} {x:α} (h:o=some x):optD enc o = .ref (enc x):=by rw [h];rfl
theorem D.Le.ofEq {d d'} (h:d=d'):D.Le d d':=h▸.refl _
end
section
variable [ztC] [Drw]
end
section
variable [ztC] [Drw]
structure zwU (P:Program) (f:FuncId):Prop where
 out : ∃ fn, P.funcs[f]? = some fn ∧ (fn.name == "runtime.NumGoroutine") = false ∧ fn.body.isNone = true ∧ Extern.findNext fn = none ∧ Extern.find fn = some Extern.BytealgIndexByte.indexByte
theorem OpV.idxByte {P o e H f x y tys} {l:List UInt8} {c} (ho:o.op = .call { callee:=.value (.func f),args:=#[x,y],argTypes:=tys }) (hf:zwU P f)
  (hx:e x=some (.d (.str l))) (hy:e y=some (.d (.val (.int .u8 c)))):OpV P o e H (.d (.int (Lib.indexByte l c.toNat.toUInt8))):=by
 obtain ⟨fn,h1,h2,h3,h4,h5⟩:=hf.out;refine ⟨λA0 bs w g m hg _ hk=>?_⟩;have e1:=zt.1 (hg x (by simp [ho,Op.operands,Call.operands]) _ hx);have e2:=zt.1 (hg y (by simp [ho,Op.operands,Call.operands]) _ hy);have hrun:(execOp g o).run P w = .ok (.value (.int .i64 (Lib.indexByte l c.toNat.toUInt8))) w:=by
  have h:=run_callFunc_extern h1 h2 h3 h4 h5 #[.string ⟨l.toArray⟩,.int .u8 c] w;rw [Lib.run_indexByteString] at h;simp only [execOp,ho,resolve,hk,Deferred.ofValue,Sem.run_bind,Sem.run_pure,Result.andThen_ok,invoke];simpa [e1,e2] using h
 rw [hrun];exact ⟨Fr.refl _ _,zt.2 rfl⟩
end
def tab0:List Int:=[0,0,0,0,0,0,0,0,0,1,1,1,1,1,0,0,0,0,0,0,0,0,0,0,0,0,0,0,0,0,0,0,1,0,0,0,0,0,0,0,0,0,0,0,0,0,0,0,0,0,0,0,0,0,0,0,0,0,0,0,0,0,0,0,0,0,0,0,0,0,0,0,0,0,0,0,0,0,0,0,0,0,0,0,0,0,0,0,0,0,0,0,0,0,0,0,0,0,0,0,0,0,0,0,0,0,0,0,0,0,0,0,0,0,0,0,0,0,0,0,0,0,0,0,0,0,0,0,0,0,0,0,0,0,0,0,0,0,0,0,0,0,0,0,0,0,0,0,0,0,0,0,0,0,0,0,0,0,0,0,0,0,0,0,0,0,0,0,0,0,0,0,0,0,0,0,0,0,0,0,0,0,0,0,0,0,0,0,0,0,0,0,0,0,0,0,0,0,0,0,0,0,0,0,0,0,0,0,0,0,0,0,0,0,0,0,0,0,0,0,0,0,0,0,0,0,0,0,0,0,0,0,0,0,0,0,0,0,0,0,0,0,0,0,0,0,0,0,0,0,0,0,0,0,0,0]
instance dF:Drw:=⟨False⟩
instance globs:ztC:=⟨[(0,.cells (tab0.map (Value.int .u8)).toArray 336 (0,0))]⟩
theorem gm0:(0,Obj.cells (tab0.map (Value.int .u8)).toArray 336 (0,0))∈ztC.gs:=uO
theorem tl0:256=tab0.length:=by decide +kernel
section
theorem I.{u} {α:Sort u} {a:α}:a=a:=rfl
theorem Looks.c {T:List (Nat×V)} {k:Nat} {v:V} {ks:List Nat} {K:List (Nat×V)} (h:look k T=some v) (r:Looks T ks K):Looks T (k::ks) ((k,v)::K):=.cons h r
theorem bK {α R:Type} {o:Option α} {k:α→Option R} {r:R} {G:Prop} (h:o.bind k=some r) (f:∀ v,o=some v→k v=some r→G):G:=by
 obtain ⟨v,h1,h2⟩:=zud h
 exact f v h1 h2
theorem gK {R:Type} {c:Bool} {m:Option R} {r:R} {G:Prop} (h:grd c m=some r) (f:c=true→m=some r→G):G:=f (grdS h).1 (grdS h).2
theorem Pure.ot [ztC] [Drw] {P:Program} {f:FuncId} {fn:Func} {c:Code} {xs:List D} {y:D} {m:Nat} (hf:P.funcs[f]? = some fn) (hb:fn.body=some c) (hm:fn.ntmps=m) (hn:Nat.ble xs.length m=true)
  (h:∀ A w,Tri P ⟨A,ze,w,m,λ_ _=>False,[],0,[]⟩ c (retQ P fn.results y) ⟨params 0 xs,[]⟩):Pure P f xs y:=by
 subst hm
 exact Pure.zwr hf hb (yq hn) h
theorem Looks.c2 {T:List (Nat×V)} {k0 k1:Nat} {v0 v1:V} {ks:List Nat} {K:List (Nat×V)} (h:(look k0 T,look k1 T)=(some v0,some v1)) (r:Looks T ks K):Looks T (k0::k1::ks) ((k0,v0)::(k1,v1)::K):=by simp only [yg] at h;exact .cons h.1 (.cons h.2 r)
theorem Looks.c4 {T:List (Nat×V)} {k0 k1 k2 k3:Nat} {v0 v1 v2 v3:V} {ks:List Nat} {K:List (Nat×V)} (h:(look k0 T,look k1 T,look k2 T,look k3 T)=(some v0,some v1,some v2,some v3)) (r:Looks T ks K):Looks T (k0::k1::k2::k3::ks) ((k0,v0)::(k1,v1)::(k2,v2)::(k3,v3)::K):=by simp only [yg] at h;exact .cons h.1 (.cons h.2.1 (.cons h.2.2.1 (.cons h.2.2.2 r)))
theorem Looks.c8 {T:List (Nat×V)} {k0 k1 k2 k3 k4 k5 k6 k7:Nat} {v0 v1 v2 v3 v4 v5 v6 v7:V} {ks:List Nat} {K:List (Nat×V)} (h:(look k0 T,look k1 T,look k2 T,look k3 T,look k4 T,look k5 T,look k6 T,look k7 T)=(some v0,some v1,some v2,some v3,some v4,some v5,some v6,some v7)) (r:Looks T ks K):Looks T (k0::k1::k2::k3::k4::k5::k6::k7::ks) ((k0,v0)::(k1,v1)::(k2,v2)::(k3,v3)::(k4,v4)::(k5,v5)::(k6,v6)::(k7,v7)::K):=by simp only [yg] at h;exact .cons h.1 (.cons h.2.1 (.cons h.2.2.1 (.cons h.2.2.2.1 (.cons h.2.2.2.2.1 (.cons h.2.2.2.2.2.1 (.cons h.2.2.2.2.2.2.1 (.cons h.2.2.2.2.2.2.2 r)))))))
theorem Fz1.{u} {α:Sort u} {a b:α} {R:Prop} (h:a=b) (r:R):a=b∧R:=⟨h,r⟩
theorem Fz2 {α0 α1:Type} {a0 b0:α0} {a1 b1:α1} {R:Prop} (h:(a0,a1)=(b0,b1)) (r:R):a0=b0∧a1=b1∧R:=by simp only [yg] at h;exact ⟨h.1,h.2,r⟩
theorem FzE.{u} {α:Sort u} {a:α}:a=a∧True:=⟨rfl,trivial⟩
theorem Fz8 {α0 α1 α2 α3 α4 α5 α6 α7:Type} {a0 b0:α0} {a1 b1:α1} {a2 b2:α2} {a3 b3:α3} {a4 b4:α4} {a5 b5:α5} {a6 b6:α6} {a7 b7:α7} {R:Prop} (h:(a0,a1,a2,a3,a4,a5,a6,a7)=(b0,b1,b2,b3,b4,b5,b6,b7)) (r:R):a0=b0∧a1=b1∧a2=b2∧a3=b3∧a4=b4∧a5=b5∧a6=b6∧a7=b7∧R:=by simp only [yg] at h;exact ⟨h.1,h.2.1,h.2.2.1,h.2.2.2.1,h.2.2.2.2.1,h.2.2.2.2.2.1,h.2.2.2.2.2.2.1,h.2.2.2.2.2.2.2,r⟩
variable [ztC] [Drw]
theorem TriL.p {P:Program} {C:Ctx} {ops:Array Oper} {o:Oper} {rest:List Oper} {Q:Exit→St→Prop} {s:St} {v:V} (h:(o.guard,zt2 o.dst C.n)=(none,true)) (hv:OpV P o (ev s.T) s.H v) (k:TriL P C ops rest Q (s.put o.dst v)):TriL P C ops (o::rest) Q s:=by
 simp only [yg] at h
 exact .op h.1 h.2 hv k
theorem Tri.sr {P:Program} {C:Ctx} {Q:Exit→St→Prop} {s:St} {id:Nat} {l:List Oper} {y:Code} (h:TriL P C l.toArray l (zv6 (Tri P C y Q) Q) s):Tri P C (.seq (.region id l.toArray false) y) Q s:=.seq (.region h)
section
variable {P:Program} {n:Nat} {ops:Array Oper} {H:List Blk} {o:Oper} {rest:List Oper} {al:List Ev} {T:List (Nat×V)} {K:List Ev→List (Nat×V)→Prop}
theorem TriQ.p {d:Nat} {v:V} (h:(o.guard,o.dst,Nat.blt d n,zah o)=(none,some d,true,false)) (hv:OpV P o (ev T) H v) (k:TriQ P n ops H rest al ((d,v)::T) K):TriQ P n ops H (o::rest) al T K:=by
 simp only [yg] at h
 exact .op h.1 h.2.1 h.2.2.1 h.2.2.2 hv k
theorem TriQ.q {d:Nat} {v:V} {j g:Nat} {want:Bool} (h:(o.guard,(ops[j]?).bind (·.dst),look g T,o.dst,Nat.blt d n,zah o)=(some (j,want),some g,some (.d (.bool want)),some d,true,false)) (hv:OpV P o (ev T) H v)
  (k:TriQ P n ops H rest al ((d,v)::T) K):TriQ P n ops H (o::rest) al T K:=by
 simp only [yg] at h
 exact .gop h.1 h.2.1 h.2.2.1 h.2.2.2.1 h.2.2.2.2.1 h.2.2.2.2.2 hv k
end
variable {P:Program} {o:Oper} {e:Operand→Option V} {H:List Blk}
theorem OpV.asg {x:Operand} {v:V} (h:(o.op,e x)=(.assign x,some v)):OpV P o e H v:=by
 simp only [yg] at h
 exact .assign h.1 h.2
theorem OpV.nt {t:TypeId} {x:Operand} {b:Bool} (h:(o.op,e x)=(.unOp .not t x,some (.d (.bool b)))):OpV P o e H (.d (.bool !b)):=by
 simp only [yg] at h
 exact .not h.1 h.2
theorem OpV.bx {t:TypeId} {x:Operand} {d:D} (h:(o.op,e x)=(.box t x,some (.d d))):OpV P o e H (.d (.ref d)):=by
 simp only [yg] at h
 exact .box h.1 h.2
theorem OpV.ad {t u:TypeId} {x y:Operand} {a b:Int} (h:(o.op,e x,e y)=(.binOp .add t x y u,some (.d (.int a)),some (.d (.int b)))):OpV P o e H (.d (.int (ztu a b))):=by
 simp only [yg] at h
 exact .add6 h.1 h.2.1 h.2.2
theorem OpV.sb {t u:TypeId} {x y:Operand} {a b:Int} (h:(o.op,e x,e y)=(.binOp .sub t x y u,some (.d (.int a)),some (.d (.int b)))):OpV P o e H (.d (.int (ztH a b))):=by
 simp only [yg] at h
 exact .sub6 h.1 h.2.1 h.2.2
theorem OpV.ls {t u:TypeId} {x y:Operand} {k:IntKind} {a b:Int} (h:(o.op,e x,e y)=(.binOp .lss t x y u,some (.d (.val (.int k a))),some (.d (.val (.int k b))))):OpV P o e H (.d (.bool (decide (a<b)))):=by
 simp only [yg] at h
 exact .lss h.1 h.2.1 h.2.2
theorem OpV.le {t u:TypeId} {x y:Operand} {k:IntKind} {a b:Int} (h:(o.op,e x,e y)=(.binOp .leq t x y u,some (.d (.val (.int k a))),some (.d (.val (.int k b))))):OpV P o e H (.d (.bool (decide (a≤b)))):=by
 simp only [yg] at h
 exact .leq h.1 h.2.1 h.2.2
theorem OpV.gt {t u:TypeId} {x y:Operand} {k:IntKind} {a b:Int} (h:(o.op,e x,e y)=(.binOp .gtr t x y u,some (.d (.val (.int k a))),some (.d (.val (.int k b))))):OpV P o e H (.d (.bool (decide (b<a)))):=by
 simp only [yg] at h
 exact .gtr h.1 h.2.1 h.2.2
theorem OpV.ge {t u:TypeId} {x y:Operand} {k:IntKind} {a b:Int} (h:(o.op,e x,e y)=(.binOp .geq t x y u,some (.d (.val (.int k a))),some (.d (.val (.int k b))))):OpV P o e H (.d (.bool (decide (b≤a)))):=by
 simp only [yg] at h
 exact .geq h.1 h.2.1 h.2.2
theorem OpV.eq {t u:TypeId} {x y:Operand} {k:IntKind} {a b:Int} (h:(o.op,e x,e y)=(.binOp .eql t x y u,some (.d (.val (.int k a))),some (.d (.val (.int k b))))):OpV P o e H (.d (.bool (a==b))):=by
 simp only [yg] at h
 exact .eql h.1 h.2.1 h.2.2
theorem OpV.ne {t u:TypeId} {x y:Operand} {k:IntKind} {a b:Int} (h:(o.op,e x,e y)=(.binOp .neq t x y u,some (.d (.val (.int k a))),some (.d (.val (.int k b))))):OpV P o e H (.d (.bool (a != b))):=by
 simp only [yg] at h
 exact .neq h.1 h.2.1 h.2.2
theorem OpV.fa {t:TypeId} {x:Operand} {i:Nat} {a b:D} (h:(o.op,e x)=(.fieldAddr t x i,some (.d (.ref a)))) (hf:Fld P t i a b):OpV P o e H (.d (.ref b)):=by
 simp only [yg] at h
 exact .fieldAddr h.1 h.2 hf
theorem OpV.ld {t:TypeId} {x:Operand} {d:D} {k:Option Nat} (ht:zae P t=some k) (h:(o.op,e x,d.shape)=(.load t x,some (.d (.ref d)),k)):OpV P o e H (.d d):=by
 simp only [yg] at h
 exact .load h.1 h.2.1 ht h.2.2
theorem OpV.ix {α:Type} {t el:TypeId} {x i:Operand} {k:Nat} {l:List α} {enc:α→D} {a:Int} {v:α} (h:(o.op,e x,e i)=(.indexAddr t x i,some (.d (.sl k (l.map enc))),some (.d (.int a))))
  (ht:P.underlying t=some (.slice el)) (hs:(P.info? el).map (·.size)=some k) (hv:Go.Proofs.YtipkniadbkndfaaGreatDoor.idx l a=some v):OpV P o e H (.d (.ref (enc v))):=by
 simp only [yg] at h
 exact .idx h.1 h.2.1 h.2.2 ht hs hv
section
variable {P:Program} {C:Ctx} {ops:Array Oper} {o o':Oper} {rest:List Oper} {Q:Exit→St→Prop} {s:St} {v:V} {x y:Operand} {t u:TypeId} {i:Nat} {a b:D} {k:Option Nat}
theorem TriL.m (h:(o.guard,zt2 o.dst C.n,o.op,ev s.T x)=(none,true,.move x,some v)) (r:TriL P C ops rest Q (s.put o.dst v)):TriL P C ops (o::rest) Q s:=by
 simp only [yg] at h
 exact .op h.1 h.2.1 (.move h.2.2.1 h.2.2.2) r
theorem TriL.z (h:(o.guard,zt2 o.dst C.n,o.op,ev s.T x)=(none,true,.assign x,some v)) (r:TriL P C ops rest Q (s.put o.dst v)):TriL P C ops (o::rest) Q s:=by
 simp only [yg] at h
 exact .op h.1 h.2.1 (.assign h.2.2.1 h.2.2.2) r
theorem TriL.f (h:(o.guard,zt2 o.dst C.n,o.op,ev s.T x)=(none,true,.fieldAddr t x i,some (.d (.ref a)))) (hf:Fld P t i a b) (ht:zae P u=some k)
  (h':(o'.guard,zt2 o'.dst C.n,o'.op,ev (s.put o.dst (.d (.ref b))).T y,b.shape)=(none,true,.load u y,some (.d (.ref b)),k)) (r:TriL P C ops rest Q ((s.put o.dst (.d (.ref b))).put o'.dst (.d b))):TriL P C ops (o::o'::rest) Q s:=by
 simp only [yg] at h h'
 exact .op h.1 h.2.1 (.fieldAddr h.2.2.1 h.2.2.2 hf) (.op h'.1 h'.2.1 (.load h'.2.2.1 h'.2.2.2.1 ht h'.2.2.2.2) r)
end
section
variable {P:Program} {n:Nat} {ops:Array Oper} {H:List Blk} {l:List Oper} {p o o':Oper} {rest:List Oper} {al:List Ev} {T:List (Nat×V)} {K:List Ev→List (Nat×V)→Prop} {x y:Operand} {v:V} {d d' j j' g g' r i:Nat} {w w' bo b2:Bool} {t u:TypeId} {a b:D} {k:Option Nat}
theorem TriQ.m (h:(o.guard,o.dst,Nat.blt d n,o.op,ev T x)=(none,some d,true,.move x,some v)) (r:TriQ P n ops H rest al ((d,v)::T) K):TriQ P n ops H (o::rest) al T K:=by
 simp only [yg] at h
 exact .op h.1 h.2.1 h.2.2.1 (by simp [zah,h.2.2.2.1]) (.move h.2.2.2.1 h.2.2.2.2) r
theorem TriQ.z (h:(o.guard,o.dst,Nat.blt d n,o.op,ev T x)=(none,some d,true,.assign x,some v)) (r:TriQ P n ops H rest al ((d,v)::T) K):TriQ P n ops H (o::rest) al T K:=by
 simp only [yg] at h
 exact .op h.1 h.2.1 h.2.2.1 (by simp [zah,h.2.2.2.1]) (.assign h.2.2.2.1 h.2.2.2.2) r
theorem TriQ.f (h:(o.guard,o.dst,Nat.blt d n,o.op,ev T x)=(none,some d,true,.fieldAddr t x i,some (.d (.ref a)))) (hf:Fld P t i a b) (ht:zae P u=some k)
  (h':(o'.guard,o'.dst,Nat.blt d' n,o'.op,ev ((d,.d (.ref b))::T) y,b.shape)=(none,some d',true,.load u y,some (.d (.ref b)),k)) (r:TriQ P n ops H rest al ((d',.d b)::(d,.d (.ref b))::T) K):TriQ P n ops H (o::o'::rest) al T K:=by
 simp only [yg] at h h'
 exact .op h.1 h.2.1 h.2.2.1 (by simp [zah,h.2.2.2.1]) (.fieldAddr h.2.2.2.1 h.2.2.2.2 hf) (.op h'.1 h'.2.1 h'.2.2.1 (by simp [zah,h'.2.2.2.1]) (.load h'.2.2.2.1 h'.2.2.2.2.1 ht h'.2.2.2.2.2) r)
theorem TriQ.qf (h:(o.guard,(ops[j]?).bind (·.dst),look g T,o.dst,Nat.blt d n,o.op,ev T x)=(some (j,w),some g,some (.d (.bool w)),some d,true,.fieldAddr t x i,some (.d (.ref a)))) (hf:Fld P t i a b) (ht:zae P u=some k)
  (h':(o'.guard,(ops[j']?).bind (·.dst),look g' ((d,.d (.ref b))::T),o'.dst,Nat.blt d' n,o'.op,ev ((d,.d (.ref b))::T) y,b.shape)=(some (j',w'),some g',some (.d (.bool w')),some d',true,.load u y,some (.d (.ref b)),k)) (r:TriQ P n ops H rest al ((d',.d b)::(d,.d (.ref b))::T) K):TriQ P n ops H (o::o'::rest) al T K:=by
 simp only [yg] at h h'
 exact .gop h.1 h.2.1 h.2.2.1 h.2.2.2.1 h.2.2.2.2.1 (by simp [zah,h.2.2.2.2.2.1]) (.fieldAddr h.2.2.2.2.2.1 h.2.2.2.2.2.2 hf) (.gop h'.1 h'.2.1 h'.2.2.1 h'.2.2.2.1 h'.2.2.2.2.1 (by simp [zah,h'.2.2.2.2.2.1]) (.load h'.2.2.2.2.2.1 h'.2.2.2.2.2.2.1 ht h'.2.2.2.2.2.2.2) r)
theorem TriQ.jA (m:Nat) (b2:Bool) (h:(l.drop m,p.op,look g T,zeT ops n g true (l.take m) [],p.guard,p.dst,Nat.blt d n)=(p::rest,.pick (.tmp g) (.tmp r) (.const (.bool false)),some (.d (.bool bo)),true,none,some d,true))
  (h1:bo=true→TriQ P n ops H (l.take m) al ((g,.d (.bool true))::T) (λ_ T'=>look r T'=some (.d (.bool b2))))
  (h2:TriQ P n ops H rest al ((d,.d (.bool (bo&&b2)))::zwc (dsts (l.take m)) T) K):TriQ P n ops H l al T K:=by
 simp only [yg] at h
 exact .jAnd m h.1 h.2.1 h.2.2.1 h.2.2.2.1 (.inl h.2.2.2.2.1) (λ_ _ _ q=>by rw [h.2.2.2.2.1] at q;cases q) h.2.2.2.2.2.1 h.2.2.2.2.2.2 h1 h2
theorem TriQ.jO (m:Nat) (b2:Bool) (h:(l.drop m,p.op,look g T,zeT ops n g false (l.take m) [],p.guard,p.dst,Nat.blt d n)=(p::rest,.pick (.tmp g) (.const (.bool true)) (.tmp r),some (.d (.bool bo)),true,none,some d,true))
  (h1:bo=false→TriQ P n ops H (l.take m) al ((g,.d (.bool false))::T) (λ_ T'=>look r T'=some (.d (.bool b2))))
  (h2:TriQ P n ops H rest al ((d,.d (.bool (bo||b2)))::zwc (dsts (l.take m)) T) K):TriQ P n ops H l al T K:=by
 simp only [yg] at h
 exact .jOr m h.1 h.2.1 h.2.2.1 h.2.2.2.1 (.inl h.2.2.2.2.1) (λ_ _ _ q=>by rw [h.2.2.2.2.1] at q;cases q) h.2.2.2.2.2.1 h.2.2.2.2.2.2 h1 h2
end
theorem rO {R:Type} {P:Program} {t:Tmp} {e r:R} {enc:R→D} {s:St} (h:some e=some r) (hl:look t s.T=some (.d (enc e))):retQ P #[.tmp t] (enc r) .ret s:=by
 cases h
 exact zfO hl (.d _)
end
section
variable [ztC] [Drw]
def zv7 (s':St) (e:Exit) (s:St):Prop:=e = .normal∧s=s'
theorem Oper.zwT {P:Program} {C:Ctx} {s':St} {o:Oper} {a:Act} {w:World} {K:Act→World→Prop} {Q:Exit→Act→World→Prop}
  (hK:∀ a w,(∃ bs,R C bs s' a w)→K a w) (h:o.wp P a w (QR C (zv7 s') .normal) (QR C (zv7 s'))):o.wp P a w K Q:=by
 have hn:∀ a w,QR C (zv7 s') .normal a w→K a w:=λa w h=>by
  rcases h with ⟨bs',s1,⟨_,rfl⟩,hR⟩ | ⟨h,_⟩
  ·exact hK a w ⟨bs',hR⟩
  ·cases h
 have hp:∀ c a w,¬ QR C (zv7 s') (.panic c) a w:=λc a w h=>by
  rcases h with ⟨bs',s1,⟨h,_⟩,hR⟩ | ⟨h,_⟩ <;> cases h
 have ho:¬ LetsOut (QR C (zv7 s')):=λ⟨a,w,h⟩=>by
  rcases h with ⟨bs',s1,⟨h,_⟩,hR⟩ | ⟨h,_⟩ <;> cases h
 unfold Oper.wp at *;generalize (execOp a.eval o).run P w=r at *;cases r with
 | ok n w'=>
  cases n <;> simp only [Oper.upon] at h ⊢
  case value u=>exact hn _ _ h
  case skip=>exact hn _ _ h
  case defer d=>exact hn _ _ h
  case enter f args=>
   refine Calls.mono h λe w'' he=>?_
   cases e with
   | returned u=>exact hn _ _ he
   | panicked c=>exact absurd he (hp _ _ _)
   | outgrown=>exact absurd he ho
  case row row args=>exact Rows.mono h λu w'' he=>hn _ _ he
 | halt x w'=>
  cases x <;> simp only [Oper.upon] at h ⊢
  case panic u=>exact absurd h (hp _ _ _)
theorem TriL.one {P:Program} {C:Ctx} {ops:Array Oper} {o:Oper} {s s':St} (h:TriL P C ops [o] (zv7 s') s) {i:Nat} (hi:ops[i]? = some o) {bs:List (Option Nat)} {a:Act} {w:World} (hR:R C bs s a w) {K:Act→World→Prop} {Q:Exit→Act→World→Prop}
  (hK:∀ a w,(∃ bs,R C bs s' a w)→K a w):wpOp P ops Q i K a w:=by
 have h1:=h.run bs a w hR;unfold wpOp;simp only [hi];unfold wpList at h1;split
 ·rename_i hw;rw [if_pos hw] at h1;rcases h1 with h1 | ⟨_,a1,w1,h1⟩
  ·exact .inl (Oper.zwT hK h1)
  ·rcases h1 with ⟨bs',s1,⟨h,_⟩,hR⟩ | ⟨h,_⟩ <;> cases h
 ·rename_i hw;rw [if_neg hw] at h1;rcases h1 with ⟨bs',s1,⟨_,rfl⟩,hR⟩ | ⟨h,_⟩
  ·exact hK _ _ ⟨bs',hR⟩
  ·cases h
structure TriA (P:Program) (C:Ctx) (ops:Array Oper) (fuel:Nat) (listed:Array Bool) (Q:Exit→St→Prop) (s:St):Prop where
 run:∀ bs a w,R C bs s a w→wpAny P .any ops (QR C Q) fuel listed a w
theorem TriA.done {P C ops listed Q s} (hr:Region.ready .any ops listed=[]) (h:Q .normal s):TriA P C ops 0 listed Q s:=
 ⟨λbs _ _ hR=>⟨hr,.inl ⟨bs,s,h,hR⟩⟩⟩
inductive Nexts (P:Program) (C:Ctx) (ops:Array Oper) (fuel:Nat) (listed:Array Bool) (Q:Exit→St→Prop) (s:St):List Nat→Prop
 | nil:Nexts P C ops fuel listed Q s []
 | cons {i:Nat} {o:Oper} {s':St} {is:List Nat}:ops.toList[i]? = some o→TriL P C ops [o] (zv7 s') s→TriA P C ops fuel (listed.setIfInBounds i true) Q s'→Nexts P C ops fuel listed Q s is→Nexts P C ops fuel listed Q s (i::is)
theorem TriA.step {P C ops fuel listed Q s} (i is) (hr:Region.ready .any ops listed=i::is) (h:Nexts P C ops fuel listed Q s (i::is)):TriA P C ops (fuel+1) listed Q s:=by
 refine ⟨λbs a w hR=>⟨λh0=>(by rw [hr] at h0;cases h0),?_⟩⟩;rw [hr];clear hr;generalize i::is=rs at h
 induction h with
 | nil=>intro j hj;cases hj
 | cons h1 h2 h3 _ ih=>
  intro j hj;rcases yG.1 hj with rfl | hj
  ·exact h2.one (by simpa using h1) hR λa w ⟨bs',hR'⟩=>h3.run bs' a w hR'
  ·exact ih j hj
def zrH (o:Oper):Bool:=match o.guard,o.op with
 | none,.move _=>true
 | _,_=>false
theorem TriA.first {P C ops fuel listed Q s s' o} (i) (hi0:ops.toList[i]? = some o) (hs:Region.noSelect ops=true) (hf:Region.free .any ops listed i=true)
  (hr:(Region.ready .any ops listed).contains i=true) (hm:zrH o=true) (h1:TriL P C ops [o] (zv7 s') s) (h2:TriA P C ops fuel (listed.setIfInBounds i true) (zcr Q) s'):TriA P C ops (fuel+1) listed (zcr Q) s:=by
 have hi:ops[i]? = some o:=by simpa using hi0
 refine ⟨λbs a w hR=>?_⟩;unfold zrH at hm;split at hm
 ·rename_i x hg ho;have hrun:∀ w',(execOp a.eval o).run P w' = .ok (.value (a.eval x)) w':=λw'=>by simp [execOp,ho]
  have hw:Region.wanted o (yielded ops a.tmps)=true:=by simp [Region.wanted,hg]
  refine wpAny_take (v:=a.eval x) hi hs hf hr (λc a w h=>?_) (.inl ⟨hw,hrun⟩) ?_
  ·rcases h with ⟨_,_,h,_⟩ | ⟨h,_⟩
   ·exact h.elim
   ·cases h
  ·have h3:=h1.one hi hR (Q:=QR C (zcr Q)) (K:=λa' w'=>∃ bs,R C bs s' a' w') λ_ _ h=>h
   have h4:=h1.run bs a w hR;unfold wpList at h4;rw [if_pos hw] at h4;rcases h4 with h4 | ⟨_,a1,w1,h4⟩
   ·simp only [Oper.wp,hrun,Oper.upon,wpList] at h4;rcases h4 with ⟨bs',s1,⟨_,rfl⟩,hR'⟩ | ⟨h,_⟩
    ·exact h2.run bs' _ _ hR'
    ·cases h
   ·rcases h4 with ⟨bs',s1,⟨h,_⟩,hR⟩ | ⟨h,_⟩ <;> cases h
 ·cases hm
theorem TriA.to {P C ops fuel listed Q s} (listed') (e:listed=listed') (h:TriA P C ops fuel listed' Q s):TriA P C ops fuel listed Q s:=by subst e;exact h
end
section
variable [ztC] [Drw]
theorem TriL.eqD {P C ops rest Q T H} (t) {d d'} (ht:look t T=some (.d d)) (e:d=d') (k:TriL P C ops rest Q ⟨(t,.d d')::T,H⟩):TriL P C ops rest Q ⟨T,H⟩:=by
 subst e;exact ⟨λ_ a w hR=>k.run _ a w (hR.know (hR.tmp t _ ht).1 (hR.tmp t _ ht).2)⟩
end
section
variable [ztC] [Drw]
theorem TriA.via {P C ops fuel listed Q s} (f l' s') (h:TriA P C ops f l' Q s') (k:TriA P C ops f l' Q s'→TriA P C ops fuel listed Q s):TriA P C ops fuel listed Q s:=k h
theorem TriA.zvE {P C ops fuel listed Q T K H} (ks) (hK:Looks T ks K) (h:TriA P C ops fuel listed Q ⟨K,H⟩):TriA P C ops fuel listed Q ⟨T,H⟩:=
 ⟨λc a w b=>h.run c a w (b.weaken hK.sub.look)⟩
section
variable {P:Program} {C:Ctx} {ops:Array Oper} {o:Oper} {rest:List Oper} {Q:Exit→St→Prop} {T:List (Nat×V)} {H:List Blk} {e:Operand→Option V}
theorem zoH {bs:List (Option Nat)} {i} {c} (h:bs[i]? = some c):bs.set i c=bs:=by
 refine y8 λq=>?_
 grind
theorem TriL.buildQue {α:Type} {t el} {len k bytes d:Nat} {parts} {enc} (xs:List α)
  (hg:o.guard=none) (ho:o.op = .buildSlice t len parts) (hd:o.dst=some d) (hdn:Nat.blt d C.n=true) (hp:parts.toList.map (·.1)=List.range' 0 len) (he:zbK P t el k bytes=true) (hx:evs (ev T) (parts.toList.map (·.2))=some (xs.map enc))
  (hk:∀ x,(enc x).kOK k=true) (hl:Nat.ble (len*k) 16777216=true)
  (kk:TriL P C ops rest Q ⟨(d,.que H.length 0)::T,H++[.que 0 el k (xs.map enc)]⟩):TriL P C ops (o::rest) Q ⟨T,H⟩:=by
 obtain ⟨htu,hk0,inf,z,hinf,hz,hisz,hib,hzc⟩:=zby he;refine TriL.step hg (λbs a w hR=>?_) kk;have hreps:D.reps (Own C.A0 bs) w (xs.map enc) ((parts.toList.map (·.2)).map a.eval):=zeJ (H:=H) hx (λx _ y hy=>hR.ev hy);have hcells:=D.zvi hreps (k:=k) (by intro d hd;obtain ⟨x,_,rfl⟩:=y9.1 hd;exact hk x);have hlen:=congrArg List.length hp;simp only [yK,List.length_range',yF] at hlen;have hkk:∀ u∈(parts.toList.map (·.2)).map a.eval,u.cells.size=k:=by
  intro u hu;obtain ⟨i,hi,rfl⟩:=List.getElem_of_mem hu;have hl2:=D.ztS hreps;have hi':i<(xs.map enc).length:=by rw [← hl2];exact hi
  obtain ⟨v,hv,hr⟩:=D.zuk hreps i (xs.map enc)[i] (yw hi');rw [yw hi] at hv;cases hv;rw [List.getElem_map] at hr;exact D.zvy hr (hk _)
 obtain ⟨cells,g1,g2⟩:=ze3 (P:=P) (w:=w) (k:=k) htu hinf hz hisz hzc hkk (by
  have:=yq hl;simp only [yK,yF,hlen];omega)
 have hzip:=zmd (β:=D) parts.toList 0 (by rw [hp];simp [hlen]);have harr:(parts.map λ(i,x)=>(i,a.eval x))=((((parts.toList.map (·.2)).map a.eval).zipIdx 0).map λp=>(p.2,p.1)).toArray:=by
  apply Array.ext';rw [Array.toList_map]
  conv=>lhs;rw [hzip]
  simp only [List.zipIdx_map,List.map_map];rfl
 have hrun:(execOp a.eval o).run P w = .ok (.value (.slice (some ⟨w.heap.size,0,none⟩) len len)) (w.alloc (.cells cells el)):=by
  simp only [yK,yF,hlen] at g2;simp only [execOp,ho,Sem.run_bind,harr,g2,Result.andThen_ok,Sem.run_pure]
 have hxl:xs.length=len:=by have:=D.ztS hreps;simp at this;omega
 have hcl:cells.size=len*k:=by
  have:=D.zuP hcells;rw [← g1] at this;simp only [yF,yK] at this;rw [this,hxl]
 refine ⟨_,_,bs++[some w.heap.size],hrun,.inl ⟨_,rfl,?_⟩⟩;have hl2:=hR.len;simp only at hl2;have h2:=hR.newObj (.cells cells el) (.que 0 el k (xs.map enc)) (by grind [Blk.rep]);have hfr:Fr ze w (w.alloc (.cells cells el)):=⟨rfl,rfl,rfl,by simp,λb hb _=>Below.heap_alloc w _ b hb,λ_=>ym _⟩
 have hA0:∀ b,b<w.heap.size→Own C.A0 (bs++[some w.heap.size]) b→Own C.A0 bs b:=λb hb hb'=>by
  rcases hb' with hb' | hb'
  ·exact .inl hb'
  ·rcases yu.1 hb' with hb' | hb'
   ·exact .inr hb'
   grind
 have:=h2.put (Fr.refl _ _) (some d) (by grind [zt2]) (v:=.que H.length 0) (u:=.slice (some ⟨w.heap.size,0,none⟩) len len) (by
  simp only [V.rep];rw [yP (ym _)];simp only [uv,yT];refine ⟨ym _,λ_=>⟨w.heap.size,0,len,by grind,by grind,?_⟩⟩;refine ⟨by grind,cells,heap_alloc_new w _,by grind,cells.toList,?_,λj v hv=>by grind⟩;rw [g1];exact D.ztU hfr (λ_ x=>x.elim) hA0 _ _ hcells)
 rw [hd];exact this
theorem OpV.lenQ {x t el k i s t'} {xs} (ho:o.op = .call { callee:=.builtin .len,args:=#[x],argTypes:=#[t] }) (ht:P.underlying t=some (.slice t')) (hx:e x=some (.que i s)) (hi:H[i]? = some (.que s el k xs)):OpV P o e H (.d (.int (xs.length:Int))):=
 .of_same λl n w f m j=>by
  have a:=j x (by grind [Op.operands,Call.operands]) _ hx;simp only [V.rep,hi] at a;obtain ⟨b,g,h,_,c,_⟩:=a.2 trivial;refine ⟨.int .i64 xs.length,?_,zt.2 rfl⟩;simp [execOp,ho,resolve,invoke,builtin,Builtin.len_,c,run_underlying ht,goInt]
theorem OpV.lenQL {α:Type} {x t el k i s t'} {enc} {l:List α} (ho:o.op = .call { callee:=.builtin .len,args:=#[x],argTypes:=#[t] }) (ht:P.underlying t=some (.slice t')) (hx:e x=some (.que i s)) (hi:H[i]? = some (.que s el k (l.map enc))):OpV P o e H (.d (.int (l.length:Int))):=by
 grind [OpV.lenQ,List.length_map]
theorem OpV.idxQ {α} {t el el' x i} {k bi s} {l} {enc} {a} {v:α} (ho:o.op = .indexAddr t x i) (hx:e x=some (.que bi s)) (hb:H[bi]? = some (.que s el' k (l.map enc))) (hi:e i=some (.d (.int a)))
  (ht:P.underlying t=some (.slice el)) (hs:(P.info? el).map (·.size)=some k) (hv:Go.Proofs.YtipkniadbkndfaaGreatDoor.idx l a=some v):OpV P o e H (.qel bi s a.toNat):=by
 obtain ⟨j,rfl,A,rfl⟩:=idxS hv;refine .of_same λC E w f m q=>?_
 have p:=q x (by grind [Op.operands]) _ hx;have z:=zt.1 (q i (by grind [Op.operands]) _ hi);simp only [V.rep,hb] at p;obtain ⟨b,h,y,r,u,B⟩:=p.2 trivial;cases c:P.info? el with
 | none=>simp_all
 | some inf=>
  have n:inf.size=k:=by simp_all
  refine ⟨.pointer (some ⟨b,h+j*k,none⟩),?_,?_⟩
  ·have g:(0:Int)≤j∧(j:Int)<((l.map enc).length):=by simp_all
   simp only [execOp,ho,u,z,Instr.indexAt,asIntOf,Sem.run_bind,Sem.run_pure,Result.andThen_ok,run_underlying ht];rw [if_pos g];simp [sizeOf,typeInfo,c,n,Addr.add_lit]
  ·simp only [V.rep]
   grind
theorem OpV.loadQ {α} {t el x} {i s k} {sh} {l} {enc} {a} {v:α} (ho:o.op = .load t x) (hx:e x=some (.qel i s a.toNat)) (hi:H[i]? = some (.que s el k (l.map enc))) (hv:Go.Proofs.YtipkniadbkndfaaGreatDoor.idx l a=some v)
  (ht:zae P t=some sh) (hk:(enc v).shape=sh):OpV P o e H (.d (enc v)):=
 .of_same λQ O w f m B=>by
  obtain ⟨j,rfl,L,rfl⟩:=idxS hv;have p:=B x (by grind [Op.operands]) _ hx;simp only [V.rep,hi] at p;obtain ⟨b,c,J,_,n,_,r⟩:=p.2 trivial;obtain ⟨C,g,E,F,M,h,A⟩:=r;obtain ⟨z,u,N,G⟩:=D.zwg h j (by simp_all);simp only [List.getElem_map] at u;simp only [yt] at n;have K:zdc w b (c+j*k) z:=λq r=>by
   have y:=G q (by omega);rw [zV E,← y]
   grind
  refine ⟨z,?_,by grind [V.rep]⟩;simp only [execOp,ho,n,Sem.run_bind,zco ht u hk K,Result.andThen_ok,Sem.run_pure]
theorem D.zx0 {A w k} (n) {xs} {cells} (h:D.flat A w k xs cells):D.flat A w k (xs.drop n) (cells.drop (n*k)):=(D.zuK n h).2
theorem TriL.queTail {α} {t el el' x y} {d i s k:Nat} {l r} {enc:α→D} {lo} (hg:o.guard=none) (ho:o.op = .slice t x (some y) none none) (hd:o.dst=some d) (hdn:Nat.blt d C.n=true) (hx:ev T x=some (.que i s)) (hi:H[i]? = some (.que s el' k (l.map enc))) (hy:ev T y=some (.d (.int lo)))
  (ht:P.underlying t=some (.slice el)) (hs:(P.info? el).map (·.size)=some k) (hr:cut l lo (l.length:Int)=some r)
  (kk:TriL P C ops rest Q ⟨(d,.que i (s+1))::T,H.set i (.que (s+1) el' k (r.map enc))⟩):TriL P C ops (o::rest) Q ⟨T,H⟩:=by
 obtain ⟨a,b,rfl,hb,h1,h2,rfl⟩:=cutS hr;have hb':l.length=b:=by omega
 subst hb';refine TriL.step hg (λbs act w hR=>?_) kk;have e1:=hR.ev hx;have e2:=zt.1 (hR.ev hy);simp only [V.rep,hi] at e1;obtain ⟨g,off,cap,hbs,hp,hle,cells,hh,hsz,cs,hfl,hcs⟩:=e1.2 trivial;simp only [yK] at hp hle;cases hinf:P.info? el with
 | none=>simp_all
 | some inf=>
  have hszk:inf.size=k:=by simpa [hinf] using hs
  have hel:P.elem t=el:=by simp [Program.elem,ht]
  have hck:P.cellsOf el=k:=by simp [Program.cellsOf,hinf,hszk]
  have hrun:(execOp act.eval o).run P w = .ok (.value (sliced (some ⟨g,off,none⟩) a l.length cap k)) w:=by
   have:=run_slice_l (P:=P) w t (some ⟨g,off,none⟩) l.length cap (by rw [hel];exact ht) .i64 a (by omega) (by omega);rw [hel,run_sizeOf w hinf,hck] at this;simp only [yt,Result.andThen_ok] at this;simp only [execOp,ho,hp,e2,yR,Option.map_none,Sem.run_bind,run_sliceAt_slice w t _ _ _ _ (by rw [hel];exact ht),this,Result.andThen_ok,Sem.run_pure]
  refine ⟨_,_,bs,hrun,.inl ⟨_,rfl,?_⟩⟩;have hset:=zoH hbs;have hfr:Fr (λc=>some g=some c) w w:=Fr.refl _ w;have hupd:=R.upd (y:=.que (s+1) el' k (((l.drop a).take (l.length - a)).map enc)) (c:=some g) (c':=some g) hR hi hbs (by grind [Compat]) hfr (.inl rfl) (by grind [Blk.rep]);rw [hset] at hupd;have hli:=(yc.1 hi).1;have hlen:(l.drop a).take (l.length - a)=l.drop a:=List.take_of_length_le (by simp);rw [hlen] at hupd ⊢;have:=hupd.put (Fr.refl _ _) (some d) (by grind [zt2]) (v:=.que i (s+1)) (u:=sliced (some ⟨g,off,none⟩) a l.length cap k) (by
   simp only [V.rep,yy hli];refine ⟨ym _,λ_=>?_⟩;have hfl2:=D.zx0 a hfl;rw [← List.map_drop] at hfl2;by_cases hca:cap=a
   ·subst hca;refine ⟨g,off,0,hbs,by simp [sliced],?_⟩;have:l.drop cap=[]:=List.drop_eq_nil_of_le (by omega);rw [this];exact ⟨by simp,cells,hh,by grind,[],by simp [D.flat],by simp⟩
   ·refine ⟨g,off+a*k,cap - a,hbs,by grind [sliced,Addr.add_lit],by grind,cells,hh,?_,cs.drop (a*k),hfl2,λj v hv=>?_⟩
    ·have:a*k+(cap - a)*k=cap*k:=by rw [← Nat.add_mul];grind
     omega
    grind)
  rw [hd];exact this
theorem zh5 {P} (w) (t ty e) (i) (ht:P.underlying t=some (.slice e)) (hi:P.info? e=some i)
  (g off sLen sCap) (cur) (hg:w.heap[g]? = some (.cells cur e (0,0)))
  (a) (m c) (news) (hl:news.length=m*i.size) (hnews:∀ j u,news[j]? = some u→w.cell? (a.add j)=some u) (h1:∀ u∈news,u.oneCell'=true)
  (hroom:sLen+m≤sCap) (hfit:off+sLen*i.size+news.length≤cur.size) :
  (Builtin.append_ #[t,t] ty #[.slice (some ⟨g,off,none⟩) sLen sCap,.slice (some a) m c]).run P w =
   .ok (.slice (some ⟨g,off,none⟩) (sLen+m) sCap) (w.setRow g (cur.toList.take (off+sLen*i.size)++news++cur.toList.drop (off+sLen*i.size+news.length)).toArray):=by
 have d:=run_firstCells_some (P:=P) w i.size m a m c news hl hnews;have b:=run_storeCells_at P g (off+sLen*i.size) e news 0 cur w hg (by simp_all) h1;simp [Builtin.append_,run_underlying ht,sizeOf,typeInfo,hi,Builtin.lenOf,hroom,d,Addr.add_lit,b]
theorem zpS {w} {g} {c}:Fr (λb=>some g=some b) w (w.setRow g c):=⟨rfl,rfl,rfl,by simp,λk _ a=>setRow_other w g k _ (λe=>a (by rw [e])),λ_=>ym _⟩
theorem TriL.queApp {α:Type} {x y:Operand} {t el:TypeId} {i s k bytes d:Nat} {enc:α→D} {xs ys zs:List α}
  (hg:o.guard=none) (ho:o.op = .call { callee:=.builtin .append,args:=#[x,y],argTypes:=#[t,t] }) (hd:o.dst=some d) (hdn:Nat.blt d C.n=true)
  (hx:ev T x=some (.que i s)) (hi:H[i]? = some (.que s el k (xs.map enc))) (hy:ev T y=some (.d (.sl k (ys.map enc)))) (ht:zbK P t el k bytes=true) (hb:Nat.blt 0 bytes=true) (hones:∀ z,(enc z).ones=true)
  (hne:ys≠[]) (hv:Go.Proofs.YtipkniadbkndfaaGreatDoor.app bytes xs ys=some zs)
  (kk:TriL P C ops rest Q ⟨(d,.que i (s+1))::T,H.set i (.que (s+1) el k (zs.map enc))⟩):TriL P C ops (o::rest) Q ⟨T,H⟩:=by
 obtain ⟨rfl,hsz⟩:=appS hv;simp only [uG] at hb;have hml:xs.length+ys.length≤maxLen:=by
  have:xs.length+ys.length≤(xs.length+ys.length)*bytes:=Nat.le_mul_of_pos_right _ hb;simp only [maxLen];omega
 obtain ⟨htu,hk0,inf,z,hinf,hz,hisz,hib,hzc⟩:=zby ht;refine TriL.step hg (λbs act w hR=>?_) kk;have e1:=hR.ev hx;have e2:=hR.ev hy;simp only [V.rep,hi] at e1;obtain ⟨g,off,cap,hbs,hp,hle,cells,hh,hcsz,cs,hfl,hcs⟩:=e1.2 trivial;simp only [yK] at hp hle;simp only [V.rep,D.rep] at e2;obtain ⟨ad,cap2,hp2,hcap2,hrow⟩:=e2;rcases hrow with hrow | ⟨b2,off2,rfl,hb2A,hb2,hrow⟩
 ·exact absurd (by simpa using hrow) hne
 obtain ⟨news,hfl2,hnews⟩:=D.zwi _ _ hrow;have hnl:=D.zuP hfl2;have hcl:=D.zuP hfl;simp only [yK] at hnl hcl hp2;have hones2:∀ u∈news,u.oneCell'=true:=D.zvx (λd hd=>by obtain ⟨q,_,rfl⟩:=y9.1 hd;exact hones q) hfl2;have hli:=(yc.1 hi).1;have hgo:Own C.A0 bs g:=.inr (yz hbs);have hWA:∀ c,some g=some c→Own C.A0 bs c:=λc hc=>by cases hc;exact hgo
 have hfl3:D.flat (Own C.A0 bs) w k ((xs++ys).map enc) (cs++news):=by rw [ul];exact D.zvb hfl hfl2
 have hnk:(xs.length+ys.length)*k=xs.length*k+ys.length*k:=Nat.add_mul _ _ _;by_cases hroom:xs.length+ys.length≤cap
 ·have hck:xs.length*k+ys.length*k≤cap*k:=by rw [← hnk];exact yN _ hroom
  have hr:=zh5 (P:=P) w t o.type el inf htu hinf g off xs.length cap cells hh ⟨b2,off2,none⟩ ys.length cap2 news (by rw [hnl,hisz]) (λj u hu=>by rw [Addr.add_lit];exact hnews j u hu) hones2 hroom (by rw [hnl,hisz];omega);rw [hisz] at hr;obtain ⟨nw,hnw⟩:∃ nw,nw=(cells.toList.take (off+xs.length*k)++news++cells.toList.drop (off+xs.length*k+news.length)).toArray:=⟨_,rfl⟩
  rw [← hnw] at hr;have hrun:(execOp act.eval o).run P w = .ok (.value (.slice (some ⟨g,off,none⟩) (xs.length+ys.length) cap)) (w.setRow g nw):=by
   simp only [execOp,ho,resolve,invoke,builtin,Sem.run_bind,Sem.run_pure,Result.andThen_ok,List.map_toArray,yY,List.map_nil,hp,hp2,hr]
  refine ⟨_,_,bs,hrun,.inl ⟨_,rfl,?_⟩⟩;have hfr:Fr (λc=>some g=some c) w (w.setRow g nw):=zpS;have hupd:=R.upd (y:=.que (s+1) el k ((xs++ys).map enc)) (c:=some g) (c':=some g) hR hi hbs (by simp only [Compat];omega) hfr (.inl rfl) (by simp only [Blk.rep]);rw [zoH hbs] at hupd;have:=hupd.put (Fr.refl _ _) (some d) (by simpa [zt2] using hdn) (v:=.que i (s+1)) (u:=.slice (some ⟨g,off,none⟩) (xs.length+ys.length) cap) (by
   simp only [V.rep,yy hli];refine ⟨ym _,λ_=>⟨g,off,cap,hbs,by simp,by simpa using hroom,nw,setRow_heap w g cells nw el _ hh,?_,cs++news,D.ztU hfr hWA (λ_ _ h=>h) _ _ hfl3,λj v hv=>?_⟩⟩
   ·rw [hnw];simp;omega
   ·have l1:(cells.toList.take (off+xs.length*k)).length=off+xs.length*k:=by simp;omega
    rw [hnw,List.getElem?_toArray,yJ];by_cases hj:j<cs.length
    ·rw [yh hj] at hv;rw [yh (by rw [l1];omega),List.getElem?_take_of_lt (by omega)];have:=hcs j v hv;simpa using this
    ·rw [yP (by omega)] at hv;rw [yP (by rw [l1];omega),l1,yh (by have:=(yc.1 hv).1;omega),← hv];congr 1;omega)
  rw [hd];exact this
 ·have holds:∀ j v,cs[j]? = some v→w.cell? ((⟨g,off,none⟩:Addr).add j)=some v:=λj v hv=>by
   rw [Addr.add_lit,zV hh];exact hcs j v hv
  have hr:=run_append_grow (P:=P) w t o.type el inf z htu hinf hz ⟨g,off,none⟩ xs.length cap cs (by rw [hcl,hisz]) holds ⟨b2,off2,none⟩ ys.length cap2 news (by rw [hnl,hisz]) (λj u hu=>by rw [Addr.add_lit];exact hnews j u hu) (by omega) (by simp only [maxLen] at hml;omega) (growslice_fits (by omega) (by rw [hib];exact hsz));obtain ⟨nc,hnc⟩:∃ nc,nc=grownCap w (xs.length+ys.length) cap el:=⟨_,rfl⟩
  have hge:xs.length+ys.length≤nc:=by rw [hnc];exact grownCap_ge w (xs.length+ys.length) cap el
  rw [← hnc] at hr;obtain ⟨nw,hnw⟩:∃ nw,nw=cs.toArray++news.toArray++Builtin.zeroCells z.cells (nc - (xs.length+ys.length)):=⟨_,rfl⟩
  rw [← hnw] at hr;have hrun:(execOp act.eval o).run P w = .ok (.value (.slice (some ⟨w.heap.size,0,none⟩) (xs.length+ys.length) nc)) (w.drew.alloc (.cells nw el)):=by
   simp only [execOp,ho,resolve,invoke,builtin,Sem.run_bind,Sem.run_pure,Result.andThen_ok,List.map_toArray,yY,List.map_nil,hp,hp2,hr]
  refine ⟨_,_,bs.set i (some w.heap.size),hrun,.inl ⟨_,rfl,?_⟩⟩;have hfr0:Fr ze w (w.drew.alloc (.cells nw el)):=⟨rfl,rfl,rfl,by simp,λb hb _=>Below.heap_alloc w.drew _ b hb,λ_=>Nat.le_succ _⟩
  have hfr:Fr (λc=>some g=some c) w (w.drew.alloc (.cells nw el)):=hfr0.mono λ_ _ x=>x.elim
  have hupd:=R.upd (y:=.que (s+1) el k ((xs++ys).map enc)) (c:=some g) (c':=some w.heap.size) hR hi hbs (by simp only [Compat];omega) hfr (.inr (.inr ⟨w.heap.size,rfl,ym _,by simp⟩)) (by simp only [Blk.rep]);have hA:∀ b,b<w.heap.size→Own C.A0 (bs.set i (some w.heap.size)) b→Own C.A0 bs b:=λb hb hb'=>by
   rcases hb' with hb' | hb'
   ·exact .inl hb'
   ·rcases uN hb' with h | h
    ·exact .inr h
    ·cases h;omega
  have hib2:=(yc.1 hbs).1;have:=hupd.put (Fr.refl _ _) (some d) (by simpa [zt2] using hdn) (v:=.que i (s+1)) (u:=.slice (some ⟨w.heap.size,0,none⟩) (xs.length+ys.length) nc) (by
   simp only [V.rep,yy hli];refine ⟨ym _,λ_=>⟨w.heap.size,0,nc,yy hib2,by simp,by simp_all,nw,heap_alloc_new w.drew _,?_,cs++news,D.ztU hfr0 (λ_ x=>x.elim) hA _ _ hfl3,λj v hv=>?_⟩⟩
   ·rw [hnw];simp only [Array.size_append,uJ,size_zeroCells,hzc,hcl,hnl,← hnk,← Nat.add_mul];simp_all
   grind)
  rw [hd];exact this
variable {κ β:Type} [DecidableEq κ] {ke:κ→Value} {ve:β→D}
end
end
section
variable [ztC] [Drw]
structure Turns (P:Program) (f:FuncId) (t:TypeId) (cs cs':List D) (xs:List D) (y:D):Prop where
 run:∀ (A:Nat→Prop) (w:World) (b:Nat) (vs us:Array Value) (vr:List Value),(∀ c,A c→c<w.heap.size)→zdh (λc=>A c∨c=b) w→¬ A b→b<w.heap.size→w.heap[b]? = some (.cells us t (0,0)) →
  D.reps (λc=>A c∨c=b) w cs us.toList→vs.toList = .pointer (some ⟨b,0,none⟩)::vr→D.reps (λc=>A c∨c=b) w xs vr →
  Calls P f vs w (λe w'=>∃ u us',e = .returned u∧Fr (λc=>c=b) w w'∧w'.heap[b]? = some (.cells us' t (0,0))∧D.reps (λc=>A c∨c=b) w' cs' us'.toList∧D.rep (λc=>A c∨c=b) w' y u)
end
section
def zrG:Obj→Bool
 | .cells _ _ _ | .map _ _ | .mapIter _ _ _ _=>true
 | _=>false
structure Turn (w w':World):Prop where
 size:w'.heap.size=w.heap.size
 at_:∀ (b:Nat) (o:Obj),w.heap[b]? = some o→zrG o=true→w'.heap[b]? = some o
theorem Turn.put {w l o o'} (h:w.heap[l]? = some o) (hn:zrG o=false):Turn w (w.putObj l o'):=
 ⟨by simp,λb q c a=>by
  grind [World.putObj_heap_other]⟩
theorem Turn.cell {w w'} (t:Turn w w') {p v} (h:w.cell? p=some v):w'.cell? p=some v:=by
 unfold World.cell? at h ⊢;cases a:w.heap[p.block]? with
 | none=>simp_all
 | some o=>
  cases o with
  | cells c e f=>rw [t.at_ _ _ a rfl];simp_all
  | _=>simp_all
theorem Turn.cells {w w'} (t:Turn w w') {b off u} (h:zdc w b off u):zdc w' b off u:=λj a=>by
 have:=h j a;rw [uk a] at this ⊢;exact t.cell this
theorem Turn.row {w w'} (t:Turn w w') {b e k v n xs} (h:w.ownsRow b e k v n xs):w'.ownsRow b e k v n xs:=
 ⟨h.1,h.2.imp id λ⟨g,c,d,f,i,j,a⟩=>⟨g,c,d,f,i,t.at_ _ _ j rfl,a⟩⟩
mutual
theorem D.zt5 {A w w'} (t:Turn w w'):∀ (d:D) (v:Value),D.rep A w d v→D.rep A w' d v
 | .val x,v,hv=>by simpa only [D.rep] using hv
 | .agg cs,v,hv=>by
  simp only [D.rep] at hv ⊢;obtain ⟨vs,e,hr⟩:=hv;exact ⟨vs,e,D.zua t cs _ hr⟩
 | .tup cs,v,hv=>by
  simp only [D.rep] at hv ⊢;obtain ⟨vs,e,hr⟩:=hv;exact ⟨vs,e,D.zua t cs _ hr⟩
 | .sl k xs,v,hv=>by
  simp only [D.rep] at hv ⊢;obtain ⟨a,cap,e,hcap,hr⟩:=hv;refine ⟨a,cap,e,hcap,hr.imp id λ⟨b,off,ea,hb,hs,hr⟩=>⟨b,off,ea,hb,by rw [t.size];exact hs,D.zwR t b k xs off hr⟩⟩
 | .ref x,v,hv=>by
  simp only [D.rep] at hv ⊢;obtain ⟨b,off,u,e,hb,hs,hr,hc⟩:=hv;exact ⟨b,off,u,e,hb,by rw [t.size];exact hs,D.zt5 t x u hr,t.cells hc⟩
 | .fn f fs cs,v,hv=>by
  simp only [D.rep] at hv ⊢;obtain ⟨vs,us,e,h1,h2⟩:=hv;exact ⟨vs,us,e,D.zua t fs _ h1,D.zua t cs _ h2⟩
 | .mp ks ds,v,hv=>by
  simp only [D.rep] at hv ⊢;obtain ⟨b,es,clock,e,hb,hs,hh,h1,hwf,h2⟩:=hv;exact ⟨b,es,clock,e,hb,by rw [t.size];exact hs,t.at_ _ _ hh rfl,h1,hwf,D.zua t ds _ h2⟩
 | .err,v,hv=>by simpa only [D.rep] using hv
 | .osl k xs,v,hv=>by
  simp only [D.rep] at hv ⊢;obtain ⟨a,cap,e,hcap,hn,hr⟩:=hv;refine ⟨a,cap,e,hcap,hn,hr.imp id λ⟨b,off,ea,hb,hs,hr⟩=>⟨b,off,ea,hb,by rw [t.size];exact hs,D.zwR t b k xs off hr⟩⟩
theorem D.zua {A w w'} (t:Turn w w'):∀ (ds:List D) (vs:List Value),D.reps A w ds vs→D.reps A w' ds vs
 | [],vs,hv=>by simpa only [D.reps] using hv
 | d::ds,vs,hv=>by
  simp only [D.reps] at hv ⊢;obtain ⟨v,vs',e,h1,h2⟩:=hv;exact ⟨v,vs',e,D.zt5 t d v h1,D.zua t ds vs' h2⟩
theorem D.zwR {A w w'} (t:Turn w w') (b k):∀ (xs:List D) (off:Nat),D.row A w b k xs off→D.row A w' b k xs off
 | [],_,_=>by simp only [D.row]
 | x::xs,off,hv=>by
  simp only [D.row] at hv ⊢;obtain ⟨⟨u,h1,h2,h3⟩,h4⟩:=hv;exact ⟨⟨u,D.zt5 t x u h1,t.cells h2,h3⟩,D.zwR t b k xs (off+k) h4⟩
end
theorem D.zvn {A w w'} (t:Turn w w') {k}:∀ (xs) (cs),D.flat A w k xs cs→D.flat A w' k xs cs
 | [],cs,b=>by grind [D.flat]
 | x::xs,cs,b=>by
  obtain ⟨u,a,e,d,f,c⟩:=b;exact ⟨u,a,e,d,D.zt5 t x u f,D.zvn t xs a c⟩
theorem zwW.turn {A w w' b o cap k ty xs} (q:zwW A w b o cap k ty xs) (t:Turn w w'):zwW A w' b o cap k ty xs:=by
 obtain ⟨g,a,e,f,c,h,d⟩:=q;exact ⟨g,a,t.at_ _ _ e rfl,f,c,D.zvn t xs c h,d⟩
mutual
theorem V.zt5 {A w w' bs H} (t:Turn w w'):∀ (x:V) (v:Value),V.rep A w bs H x v→V.rep A w' bs H x v
 | .d x,v,hv=>by simp only [V.rep] at hv ⊢;exact D.zt5 t x v hv
 | .loc i off,v,hv=>by simpa only [V.rep] using hv
 | .vec i n,v,hv=>by
  simp only [V.rep] at hv ⊢;split at hv
  ·refine ⟨hv.1,λhn=>?_⟩;obtain ⟨cells,h1,h2,h3⟩:=hv.2 hn;exact ⟨cells,t.row h1,h2,D.zvn t _ cells h3⟩
  ·trivial
  ·exact hv.elim
 | .arr i off n,v,hv=>by simpa only [V.rep] using hv
 | .el i n j off,v,hv=>by
  simp only [V.rep] at hv ⊢;split at hv
  ·refine ⟨hv.1,λhn=>?_⟩;obtain ⟨hdr,cells,h1,h2,h3,h4⟩:=hv.2 hn;exact ⟨hdr,cells,t.row h1,h2,D.zvn t _ cells h3,h4⟩
  ·trivial
  ·exact hv.elim
 | .sub i n lo hi,v,hv=>by
  simp only [V.rep] at hv ⊢;split at hv
  ·refine ⟨hv.1,λhn=>?_⟩;obtain ⟨hdr,cells,h1,h2,h3,h4⟩:=hv.2 hn;exact ⟨hdr,cells,t.row h1,h2,D.zvn t _ cells h3,h4⟩
  ·trivial
  ·exact hv.elim
 | .agg cs,v,hv=>by
  simp only [V.rep] at hv ⊢;obtain ⟨vs,e,hr⟩:=hv;exact ⟨vs,e,V.zua t cs _ hr⟩
 | .tup cs,v,hv=>by
  simp only [V.rep] at hv ⊢;obtain ⟨vs,e,hr⟩:=hv;exact ⟨vs,e,V.zua t cs _ hr⟩
 | .fn f fs cs,v,hv=>by
  simp only [V.rep] at hv ⊢;obtain ⟨vs,us,e,h1,h2⟩:=hv;exact ⟨vs,us,e,V.zua t fs _ h1,V.zua t cs _ h2⟩
 | .mp i,v,hv=>by simpa only [V.rep] using hv
 | .itp i,v,hv=>by simpa only [V.rep] using hv
 | .que i m,v,hv=>by
  simp only [V.rep] at hv ⊢;split at hv
  ·refine ⟨hv.1,λhn=>?_⟩;obtain ⟨b,o,cap,h1,h2,h3⟩:=hv.2 hn;exact ⟨b,o,cap,h1,h2,h3.turn t⟩
  ·trivial
  ·exact hv.elim
 | .qel i m j,v,hv=>by
  simp only [V.rep] at hv ⊢;split at hv
  ·refine ⟨hv.1,λhn=>?_⟩;obtain ⟨b,o,cap,h1,h2,hj,h3⟩:=hv.2 hn;exact ⟨b,o,cap,h1,h2,hj,h3.turn t⟩
  ·trivial
  ·exact hv.elim
 | .junk,_,_=>by simp only [V.rep]
theorem V.zua {A w w' bs H} (t:Turn w w'):∀ (xs:List V) (vs:List Value),V.reps A w bs H xs vs→V.reps A w' bs H xs vs
 | [],vs,hv=>by simpa only [V.reps] using hv
 | x::xs,vs,hv=>by
  simp only [V.reps] at hv ⊢;obtain ⟨v,vs',e,h1,h2⟩:=hv;exact ⟨v,vs',e,V.zt5 t x v h1,V.zua t xs vs' h2⟩
end
theorem Blk.zt5 {A w w' bs H} (t:Turn w w') (i) (k:Blk) (hk:k.rep A w bs H i):k.rep A w' bs H i:=by
 cases k with
 | box ty cs=>
  obtain ⟨b,f,c,a,d⟩:=hk;exact ⟨b,f,c,t.at_ _ _ a rfl,V.zua t cs _ d⟩
 | arr ty k xs=>
  obtain ⟨b,f,c,a,d⟩:=hk;exact ⟨b,f,c,t.at_ _ _ a rfl,D.zvn t xs _ d⟩
 | mp bo ks ds clock=>
  obtain ⟨b,h,c,a,d,e,g⟩:=hk;exact ⟨b,h,c,t.at_ _ _ a rfl,d,e,D.zua t ds _ g⟩
 | it j since seen last=>
  simp only [Blk.rep] at hk ⊢;split at hk
  ·obtain ⟨b,m,c,a,d⟩:=hk;exact ⟨b,m,c,a,t.at_ _ _ d rfl⟩
  ·trivial
  simp_all
 | itd bo ks ds clock since seen last=>
  obtain ⟨b,n,h,c,a,d,e,g,o,p,l⟩:=hk;exact ⟨b,n,h,c,a,by rw [t.size];grind,t.at_ _ _ e rfl,g,o,D.zua t ds _ p,t.at_ _ _ l rfl⟩
 | vec ty k xs=>trivial
 | que s ty k xs=>trivial
 | dead=>trivial
theorem R.turn {G G'} [D0:Drw] {C C' bs s a w w'} (h : @R G D0 C bs s a w) (t:Turn w w') (hA:C'.A0=C.A0) (hn:C'.n=C.n) (hgh:C'.gh=C.gh) (hgn:C'.gn=C.gn) (hdf:C'.df=C.df)
  (hfr:Fr C'.own0 C'.w0 w') (hnew:∀ b,some b∈bs→C'.own0 b∨C'.w0.heap.size≤b) (hg : @zdh G' (Own C'.A0 bs) w') : @R G' D0 C' bs s a w':=by
 obtain ⟨K,m,J,H,n,z,r,x⟩:=C';subst hA;subst hn;subst hgh;subst hgn;subst hdf;obtain ⟨⟨E,F,q,y,_⟩,f,e,d,A,g,_,_,c⟩:=h;exact ⟨⟨E,F,λb j=>by rw [t.size];exact q b j,λb j=>by rw [t.size];exact y b j,hg⟩,f,λi k B=>Blk.zt5 t i k (e i k B),λu v o=>⟨(d u v o).1,V.zt5 t v _ (d u v o).2⟩,A,g,hfr,hnew,λp l=>⟨(c p l).1,V.zt5 t _ _ (c p l).2⟩⟩
theorem Pure.widen {G G'} [D0:Drw] (hs:∀ p∈G.gs,p∈G'.gs) {P f xs y} (h : @Pure G D0 P f xs y) : @Pure G' D0 P f xs y:=
 by
 obtain ⟨h⟩:=h;exact ⟨λA w b c d e=>h A w b c (λp a=>d p (hs p a)) e⟩
variable [ztC] [Drw]
theorem Oper.wpIn_wide {P} {F} (hF:F=Fence.wide∨∃ l,F=Fence.wide.inRound l) {o:Oper} (ho:∀ c,o.op≠.defer c) {a} {w} {K} {Q} (h:o.wp P a w K Q):o.wpIn F 0 P a w K Q:=by
 have g:∀ f,F.fn f:=by rcases hF with rfl | ⟨l,rfl⟩ <;> exact λ_=>trivial
 have j:F.depth=none:=by rcases hF with rfl | ⟨l,rfl⟩ <;> rfl
 have b:∀ {f args w R},Calls P f args w R→CallsIn F 0 P f args w R:=by
  rcases hF with rfl | ⟨l,rfl⟩
  ·grind [callsIn_wide]
  ·exact λh=>(callsIn_wide (n:=0)).2 h
 have e:∀ {row args w R},Rows P row args w R→RowsIn F 0 P row args w R:=by
  rcases hF with rfl | ⟨l,rfl⟩
  ·exact λh c i _=>by
    obtain ⟨v,k,r,s⟩:=h c i
    grind [stepsIn_wide]
  ·exact λh c i _=>by
    obtain ⟨v,k,r,s⟩:=h c i;exact ⟨v,k,r,stepsIn_wide.2 s⟩
 refine ⟨λf _=>g f,?_⟩;rw [Oper.semAt_eq _ _ _ ho];unfold Oper.wp at h;generalize (execOp a.eval o).run P w=r at *;cases r with
 | ok nx w'=>
  cases nx with
  | value v=>exact h
  | skip=>exact h
  | defer d=>exact h
  | enter f args=>exact ⟨λm=>(by simp_all),b h⟩
  | row row args=>exact ⟨λm=>(by simp_all),e h⟩
  | _=>exact h.elim
 | halt x w'=>
  cases x with
  | panic v=>exact h
  | _=>exact h.elim
def zdJ (o:Oper):Bool:=match o.op with | .defer _=>false | _=>true
theorem zgc {o} (h:zdJ o=true):∀ c,o.op≠.defer c:=λc e=>by grind [zdJ]
theorem zeG {P} {F} (hF:F=Fence.wide∨∃ l,F=Fence.wide.inRound l) {ops} {Q0 Q'} (hno:∀ e a w,Q0 e a w→e = .normal) (hk:∀ a w,Q0 .normal a w→Q' .normal a w) :
  ∀ (l) (a) (w),(l.all zdJ)=true→wpList P ops Q0 l a w→wpListIn F 0 P ops Q' l a w
 | [],a,w,_,h=>hk a w h
 | o::l,a,w,b,h=>by
  simp only [um,yd] at b;simp only [wpList] at h;simp only [wpListIn];have g:∀ f,F.fn f:=by rcases hF with rfl | ⟨l,rfl⟩ <;> exact λ_=>trivial
  split <;> rename_i i
  ·rw [if_pos i] at h;rcases h with h | ⟨_,k,w',h⟩
   ·have m:∀ c a w,¬ Q0 (.panic c) a w:=λc a w h=>by grind
    have n:¬ LetsOut Q0:=λ⟨a,w,h⟩=>by grind
    refine Oper.wpIn_wide hF (zgc b.1) ?_;have j:∀ a w,wpList P ops Q0 l a w→wpListIn F 0 P ops Q' l a w:=λa w h=>zeG hF hno hk l a w b.2 h
    unfold Oper.wp at *;generalize (execOp a.eval o).run P w=r at *;cases r with
    | ok nx w'=>
     cases nx <;> simp only [Oper.upon] at h ⊢
     case value u=>simp_all
     case skip=>simp_all
     case defer d=>simp_all
     case enter f args=>
      grind [Calls.mono]
     grind [Rows.mono]
    | halt x w'=>
     cases x <;> simp only [Oper.upon] at h ⊢
     simp_all
   grind
  ·rw [if_neg i] at h;exact ⟨λf _=>g f,zeG hF hno hk l _ _ b.2 h⟩
structure OneI (P:Program) (C:Ctx) (ops:Array Oper) (o:Oper) (s s':St):Prop where
 run:∀ bs a w,R C bs s a w→∀ (Q:Exit→Act→World→Prop) (i:Nat) (K:Act→World→Prop),ops[i]? = some o→(∀ a w,(∃ bs,R C bs s' a w)→K a w)→wpOpIn Fence.wide 0 P ops Q i K a w
theorem OneI.of {P} {C} {ops} {o} {s s'} (hd:zdJ o=true) (h:TriL P C ops [o] (zv7 s') s):OneI P C ops o s s':=by
 refine ⟨λg a w d Q i K k j=>?_⟩;have b:=h.run g a w d;unfold wpOpIn;simp only [k];unfold wpList at b;split
 ·rename_i c;rw [if_pos c] at b;rcases b with b | ⟨_,l,m,b⟩
  ·exact Oper.wpIn_wide (.inl rfl) (zgc hd) (Oper.zwT j b)
  ·rcases b with ⟨e,f,⟨h,_⟩,d⟩ | ⟨h,_⟩ <;> cases h
 ·rename_i c;rw [if_neg c] at b;refine ⟨λ_ _=>trivial,?_⟩;rcases b with ⟨e,f,⟨_,rfl⟩,d⟩ | ⟨h,_⟩
  ·grind
  grind
structure TriI (P:Program) (C:Ctx) (ops:Array Oper) (fuel:Nat) (listed:Array Bool) (Q:Exit→St→Prop) (s:St):Prop where
 run:∀ bs a w,R C bs s a w→wpAnyIn Fence.wide 0 P .any ops (QR C Q) fuel listed a w
theorem TriI.done {P C ops listed Q s} (hr:Region.ready .any ops listed=[]) (h:Q .normal s):TriI P C ops 0 listed Q s:=
 ⟨λb _ _ a=>⟨hr,.inl ⟨b,s,h,a⟩⟩⟩
inductive NextI (P:Program) (C:Ctx) (ops:Array Oper) (fuel:Nat) (listed:Array Bool) (Q:Exit→St→Prop) (s:St):List Nat→Prop
 | nil:NextI P C ops fuel listed Q s []
 | cons {i:Nat} {o:Oper} {s':St} {is:List Nat}:ops.toList[i]? = some o→OneI P C ops o s s'→TriI P C ops fuel (listed.setIfInBounds i true) Q s'→NextI P C ops fuel listed Q s is→NextI P C ops fuel listed Q s (i::is)
theorem TriI.step {P C ops fuel listed Q s} (i is) (hr:Region.ready .any ops listed=i::is) (h:NextI P C ops fuel listed Q s (i::is)):TriI P C ops (fuel+1) listed Q s:=by
 refine ⟨λe a w f=>⟨λk=>(by simp_all),?_⟩⟩;rw [hr];generalize i::is=g at h
 induction h with
 | nil=>simp_all
 | cons h1 h2 h3 _ ih=>
  intro j d;rcases yG.1 d with rfl | d
  ·exact h2.run e a w f _ _ _ (by simp_all) λa w ⟨b,c⟩=>h3.run b a w c
  simp_all
structure zvT (C:Ctx) (ops:Array Oper) (o:Oper) (s:St) (b:Bool):Prop where
 run:∀ bs a w,R C bs s a w→Region.wanted o (yielded ops a.tmps)=b
theorem zvT.none {C ops o s} (h:o.guard=none):zvT C ops o s true:=⟨λ_ _ _ _=>by simp [Region.wanted,h]⟩
theorem zvT.some {C} {ops:Array Oper} {o} {s} {j g:Nat} {want b r} (h:(o.guard,(ops.toList[j]?).bind (·.dst),look g s.T,b==want)=(some (j,want),some g,some (.d (.bool b)),r)):zvT C ops o s r:=by
 simp only [yg] at h;obtain ⟨l,m,f,rfl⟩:=h;refine ⟨λn a w c=>?_⟩;have e:=c.tmp g _ f;have i:g<a.tmps.size:=by rw [c.size];grind
 have p:=zt.1 e.2;have k:a.tmps[g]? = Option.some (Value.bool b):=by simp_all
 grind [Region.wanted,yielded]
theorem TriI.first {P C ops fuel listed Q s o x v} (i) (hi0:ops.toList[i]? = some o) (hs:(Region.noSelect ops,Region.free .any ops listed i,(Region.ready .any ops listed).contains i)=(true,true,true))
  (ho:(o.op,ev s.T x,zt2 o.dst C.n)=(.move x,some v,true)) (hw:zvT C ops o s true) (h2:TriI P C ops fuel (listed.setIfInBounds i true) (zcr Q) (s.put o.dst v)):TriI P C ops (fuel+1) listed (zcr Q) s:=by
 simp only [yg] at hs ho;have g:ops[i]? = some o:=by simp_all
 refine ⟨λf a w e=>?_⟩;have b:∀ d,(execOp a.eval o).run P d = .ok (.value (a.eval x)) d:=λd=>by simp [execOp,ho.1]
 refine wpAnyIn_take (v:=a.eval x) rfl g hs.1 hs.2.1 hs.2.2 (λc a w h=>?_) ⟨.inl ⟨hw.run f a w e,b⟩,λd=>by grind [Oper.about]⟩ ?_
 ·rcases h with ⟨_,_,h,_⟩ | ⟨h,_⟩
  ·exact h.elim
  grind
 ·exact h2.run f _ _ (e.put (Fr.refl _ _) o.dst ho.2.2 (e.ev ho.2.1))
theorem TriI.skip {P C ops fuel listed Q s o} (i) (hi0:ops.toList[i]? = some o) (hs:(Region.noSelect ops,Region.free .any ops listed i,(Region.ready .any ops listed).contains i)=(true,true,true))
  (ho:zt2 o.dst C.n=true) (hab:(match o.op with | .call _=>false | _=>true)=true) (hw:zvT C ops o s false) (h2:TriI P C ops fuel (listed.setIfInBounds i true) (zcr Q) (s.put o.dst .junk)):TriI P C ops (fuel+1) listed (zcr Q) s:=by
 simp only [yg] at hs;have e:ops[i]? = some o:=by simp_all
 refine ⟨λd a w b=>?_⟩;refine wpAnyIn_take (v:=Go.undef) rfl e hs.1 hs.2.1 hs.2.2 (λc a w h=>?_) ⟨.inr ⟨hw.run d a w b,rfl⟩,λf=>?_⟩ ?_
 ·rcases h with ⟨_,_,h,_⟩ | ⟨h,_⟩
  ·exact h.elim
  grind
 ·grind [Oper.about]
 ·exact h2.run d _ _ (b.put (Fr.refl _ _) o.dst ho (v:=.junk) (by grind [V.rep]))
theorem Tri.drawI {P C Q s id l} (n) (hm:P.follows .mixedOrders=true) (hn:l.size=n) (h:TriI P C l n (Array.replicate n false) (zcr Q) s):Tri P C (.region id l true) Q s:=by
 subst hn;refine Tri.mono (Q:=zcr Q) ⟨λc a w d=>?_⟩ (λe s b=>by cases e <;> first | exact b.elim | exact b);exact (wpIn_wide (n:=0)).1 (wpIn_region_any hm (h.run c a _ d.drew))
end
def zvG (C:Ctx) (l:Nat) (rec:Loop) (T1:List (Nat×V)):Prop:=C.own0 l∧∀ q∈T1,(q.2,rec.tmps.getD q.1 Go.undef)∈C.gh
theorem zor {T t v} (h:look t T=some v):(t,v)∈T:=by
 induction T with
 | nil=>grind [look]
 | cons p r ih=>
  obtain ⟨u,x⟩:=p;simp only [zbc] at h
  grind
theorem OneI.yield {G1 G2} [D0:Drw] {l} {rec} {P} {C} {ops} {o} {T} {H H'} {x y} {tys} {d} {p N ia ib ic:Nat} {ra rb} {T1}
  (hGs : @ztC.gs G2=(l,.loop rec)::@ztC.gs G1) (hGE:∀ q∈@ztC.gs G1,q.1≠l) (hrec:rec.state = .ready∧rec.pending=none∧rec.params = #[p]∧rec.tmps.size=N) (hasg:rec.assign = .region ia ra.toArray false) (hbd:rec.body = .block ib (.region ic rb.toArray false))
  (hda:(ra.all zdJ)=true) (hdb:(rb.all zdJ)=true) (hs:zvG C l rec T1) (hTN:(T1.all λq=>Nat.blt q.1 N)=true) (hpN:Nat.blt p N=true) (hp1:(T1.all λq=>q.1 != p)=true)
  (ho:o.op = .call { callee:=.value x,args:=#[y],argTypes:=tys }) (hx:ev T x=some (.d (.fn (.yield l) [] []))) (hy:ev T y=some (.d d)) (hd:zt2 o.dst C.n=true)
  (hw : @zvT G2 D0 C ops o ⟨T,H⟩ true) (hu:(T.all λq=>q.2.under H.length)=true) (hgn:Nat.ble C.gn H.length=true)
  (h:∀ (own0) (w) (gh),@TriL G1 D0 P ⟨C.A0,own0,w,N,λ_ _=>False,gh,H.length,[]⟩ ra.toArray ra (λe s1=>e = .normal∧∀ (own0) (w),
   @TriL G1 D0 P ⟨C.A0,own0,w,N,λ_ _=>False,gh,H.length,[]⟩ rb.toArray rb (λe s2=>e = .normal∧s2.H=H') s1) ⟨(p,.d d)::T1,H⟩) :
  @OneI G2 D0 P C ops o ⟨T,H⟩ ((⟨T,H'⟩:St).put o.dst (.d (.bool true))):=by
 obtain ⟨hst,hpe,hps,hsz⟩:=hrec;refine @OneI.mk G2 D0 _ _ _ _ _ _ λbs a w hR Q i K hi hK=>?_
 have hwant:=@zvT.run G2 D0 _ _ _ _ _ hw bs a w hR;have e1:=@R.ev G2 D0 _ _ _ _ _ hR _ _ hx;have e2:=@R.ev G2 D0 _ _ _ _ _ hR _ _ hy;obtain ⟨⟨o1,o2,o3,o4,og⟩,rlen,rblk,rtmp,rdef,rsz,rfr,rnew,rgh⟩:=hR;simp only [V.rep,D.rep,D.reps] at e1;obtain ⟨vs,us,e1,hv0,hu0⟩:=e1;have hv0:vs = #[]:=by simpa using hv0
 have hu0:us = #[]:=by simpa using hu0
 subst hv0 hu0;obtain ⟨hlO,hL⟩:=og (l,.loop rec) (by rw [hGs];simp);simp only at hlO hL;have hlt:l<w.heap.size:=(yk.1 hL).1;unfold wpOpIn;simp only [hi,hwant,if_true];refine ⟨λ_ _=>trivial,?_⟩;obtain ⟨tm1,htm1⟩:∃ tm1,tm1=rec.tmps.setIfInBounds p (a.eval y):=⟨_,rfl⟩
 have hrun:(execOp a.eval o).run P w = .ok (.round l rec.fn tm1 rec.assign rec.body) w:=by
  have hyl:=run_yield (P:=P) (args:=#[a.eval y]) hL (by rw [hps];rfl);rw [hps] at hyl;simp only [execOp,ho,resolve,e1,Deferred.ofValue,Sem.run_bind,Sem.run_pure,Result.andThen_ok,invoke];simpa [htm1] using hyl
 rw [show (o.semAt Fence.wide.round a.eval)=execOp a.eval o from rfl,hrun,Oper.uponIn_round];refine ⟨λh=>by simp [Fence.wide] at h,?_⟩;refine roundIn_of_wpIn trivial ?_;obtain ⟨gh1,hgh1⟩:∃ gh1,gh1=C.gh++vals a T T:=⟨_,rfl⟩
 have hgn:=yq hgn;have hGG:∀ q∈@ztC.gs G1,q∈@ztC.gs G2:=λq hq=>by rw [hGs];exact yW _ hq
 have hR1 : @R G1 D0 ⟨C.A0,λb=>some b∈bs,w,N,λ_ _=>False,gh1,H.length,[]⟩ bs ⟨(p,.d d)::T1,H⟩ { tmps:=tm1,defers:=[] } w:=by
  have hpn:p<rec.tmps.size:=by rw [hsz];simpa using hpN
  refine @R.mk G1 D0 _ _ _ _ _ (@zvY.mk G1 _ _ _ o1 o2 o3 o4 λq hq=>og q (hGG q hq)) rlen rblk (λt v hv=>?_) rfl (by rw [htm1];simpa using hsz) (Fr.refl _ _) (λb hb=>.inl hb) λq hq=>?_
  ·simp only [zbc] at hv;split at hv <;> rename_i ht
   ·cases hv;subst ht;refine ⟨by rw [← hsz];exact hpn,?_⟩;rw [htm1,zcS _ _ _ _ _ hpn,if_pos rfl];exact e2
   ·have hm:=zor hv;have h1:=hs.2 _ hm;have h2:=yp.1 hTN _ hm;refine ⟨by simpa using h2,?_⟩;rw [htm1,zcS _ _ _ _ _ hpn,if_neg ht];exact (rgh _ h1).2
  ·rw [hgh1] at hq;rcases yu.1 hq with hq | hq
   ·exact ⟨V.zuN hgn _ (rgh q hq).1,(rgh q hq).2⟩
   ·obtain ⟨t,h1,h2⟩:=zdP hq;exact ⟨zdk hu h1,by rw [h2];exact (rtmp t _ h1).2⟩
 rw [hasg];refine wpIn_region_lit ?_;refine zeG (F:=Fence.wide.inRound l) (.inr ⟨l,rfl⟩) (Q0:=@QR G1 D0 _ _) ?_ ?_ ra _ _ hda (@TriL.run G1 D0 _ _ _ _ _ _ (h _ _ _) _ _ _ hR1)
 ·rintro e a w (⟨_,_,⟨h,_⟩,_⟩ | ⟨_,h⟩)
  ·exact h
  ·exact h.elim
 rintro a1 w1 (⟨bs1,s1,⟨_,hb⟩,hR1'⟩ | ⟨h,_⟩)
 case inr=>cases h
 simp only [Exit.then];have f1:Fr (λb=>some b∈bs) w w1:=by
  obtain ⟨_,_,_,_,_,_,f,_,_⟩:=hR1';exact f
 have n1:∀ b,some b∈bs1→some b∈bs∨w.heap.size≤b:=by
  obtain ⟨_,_,_,_,_,_,_,f,_⟩:=hR1';exact f
 have hlbs:¬ some l∈bs:=λh=>hlO (.inr h)
 have hL1:w1.heap[l]? = some (.loop rec):=(f1.block l hlt hlbs).trans hL;have hbr:=run_beginRound (P:=P) hL1 hst;refine ⟨_,hbr,?_⟩;obtain ⟨w2,hw2⟩:∃ w2,w2=w1.putObj l (.loop { rec with state:=.busy }):=⟨_,rfl⟩
 rw [← hw2];have t2:Turn w1 w2:=by rw [hw2];exact Turn.put hL1 rfl
 have hs2:w2.heap.size=w1.heap.size:=t2.size;have hlt1:l<w1.heap.size:=(yk.1 hL1).1;have hL2:w2.heap[l]? = some (.loop { rec with state:=.busy }):=by rw [hw2];exact World.putObj_heap_same hlt1
 have hput2:∀ q,q≠l→w2.heap[q]? = w1.heap[q]?:=λq hq=>by rw [hw2];exact World.putObj_heap_other hq
 have hR2 : @R G1 D0 ⟨C.A0,λb=>some b∈bs1,w2,N,λ_ _=>False,gh1,H.length,[]⟩ bs1 s1 a1 w2:=by
  have hg1 : @zdh G1 (Own C.A0 bs1) w1:=by
   obtain ⟨⟨_,_,_,_,g⟩,_⟩:=hR1';exact g
  exact R.turn hR1' t2 rfl rfl rfl rfl rfl (Fr.refl _ _) (λb hb=>.inl hb) λq hq=>⟨(hg1 q hq).1,by rw [hput2 _ (hGE q hq)];exact (hg1 q hq).2⟩
 rw [hbd];refine wpIn_block (wpIn_region_lit ?_);refine zeG (F:=Fence.wide.inRound l) (.inr ⟨l,rfl⟩) (Q0:=@QR G1 D0 _ _) ?_ ?_ rb _ _ hdb (@TriL.run G1 D0 _ _ _ _ _ _ (hb _ _) _ _ _ hR2)
 ·rintro e a w (⟨_,_,⟨h,_⟩,_⟩ | ⟨_,h⟩)
  ·exact h
  ·exact h.elim
 rintro a2 w3 (⟨bs2,s2,⟨_,hH⟩,hR3⟩ | ⟨h,_⟩)
 case inr=>cases h
 simp only [Exit.inBlock,roundPost];have f3:Fr (λb=>some b∈bs1) w2 w3:=by
  obtain ⟨_,_,_,_,_,_,f,_,_⟩:=hR3;exact f
 have n3:∀ b,some b∈bs2→some b∈bs1∨w2.heap.size≤b:=by
  obtain ⟨_,_,_,_,_,_,_,f,_⟩:=hR3;exact f
 have hlbs1:¬ some l∈bs1:=λh=>(n1 l h).elim hlbs (λh=>by omega)
 have hlbs2:¬ some l∈bs2:=λh=>(n3 l h).elim hlbs1 (λh=>by omega)
 have hL3:w3.heap[l]? = some (.loop { rec with state:=.busy }):=(f3.block l (by omega) hlbs1).trans hL2;have her:=run_endRound (P:=P) none hL3;have hback:({ { rec with state:=LoopState.busy } with state:=if (none:Option Code).isNone then LoopState.ready else LoopState.done,pending:=none }:Loop)=rec:=by
  cases rec;simp only at hst hpe;subst hst hpe;rfl
 rw [hback] at her;refine ⟨_,_,her,hK _ _ ⟨bs2,?_⟩⟩;obtain ⟨w4,hw4⟩:∃ w4,w4=w3.putObj l (.loop rec):=⟨_,rfl⟩
 rw [← hw4];have t4:Turn w3 w4:=by rw [hw4];exact Turn.put hL3 rfl
 have hlt3:l<w3.heap.size:=(yk.1 hL3).1;have hL4:w4.heap[l]? = some (.loop rec):=by rw [hw4];exact World.putObj_heap_same hlt3
 have hput4:∀ q,q≠l→w4.heap[q]? = w3.heap[q]?:=λq hq=>by rw [hw4];exact World.putObj_heap_other hq
 obtain ⟨⟨p1,p2,p3,p4,pg⟩,plen,pblk,ptmp,pdef,psz,pfr,pnew,pgh⟩:=hR3;have hRC : @R G2 D0 C bs2 ⟨T,H'⟩ a w4:=by
  subst hH;refine @R.mk G2 D0 _ _ _ _ _ (@zvY.mk G2 _ _ _ p1 p2 (λb hb=>by rw [t4.size];exact p3 b hb) (λb hb=>by rw [t4.size];exact p4 b hb) λq hq=>?_) plen (λi k hk=>Blk.zt5 t4 i k (pblk i k hk)) (λt v hv=>?_) rdef rsz ?_ (λb hb=>?_) λq hq=>?_
  ·rw [hGs] at hq;rcases yG.1 hq with rfl | hq
   ·exact ⟨λh=>h.elim (λh=>hlO (.inl h)) hlbs2,hL4⟩
   ·exact ⟨(pg q hq).1,by rw [hput4 _ (hGE q hq)];exact (pg q hq).2⟩
  ·exact ⟨(rtmp t v hv).1,V.zt5 t4 _ _ (pgh _ (by rw [hgh1];exact List.mem_append_right _ (zdv hv hv))).2⟩
  ·have hfr1:Fr (λb=>some b∈bs∨b=l∨some b∈bs1) w w4:=by
    have g1:Fr (λb=>some b∈bs∨b=l∨some b∈bs1) w w1:=f1.mono λ_ _ h=>.inl h
    have g2:Fr (λb=>some b∈bs∨b=l∨some b∈bs1) w1 w2:=by rw [hw2];exact ⟨rfl,rfl,rfl,by simp,λb _ hn=>World.putObj_heap_other (λe=>hn (.inr (.inl e))),λ_=>ym _⟩
    have g3:Fr (λb=>some b∈bs∨b=l∨some b∈bs1) w2 w3:=f3.mono λ_ _ h=>.inr (.inr h)
    have g4:Fr (λb=>some b∈bs∨b=l∨some b∈bs1) w3 w4:=by rw [hw4];exact ⟨rfl,rfl,rfl,by simp,λb _ hn=>World.putObj_heap_other (λe=>hn (.inr (.inl e))),λ_=>ym _⟩
    exact ((g1.trans g2).trans g3).trans g4
   refine ⟨hfr1.os.trans rfr.os,hfr1.tape.trans rfr.tape,hfr1.output.trans rfr.output,yH rfr.size hfr1.size,λq hq hno=>?_,λd=>yH (rfr.drawn d) (hfr1.drawn d)⟩;refine (hfr1.block q (yA hq rfr.size) λe=>?_).trans (rfr.block q hq hno);have hbs:¬ some q∈bs:=λh=>(rnew q h).elim hno (λh=>by omega)
   rcases e with e | e | e
   ·exact hbs e
   ·exact hno (by rw [e];exact hs.1)
   ·exact (n1 q e).elim hbs (λh=>by have:=rfr.size;omega)
  ·have hsz1:=f1.size;have hsz0:=rfr.size;rcases n3 b hb with h1 | h1
   ·rcases n1 b h1 with h1 | h1
    ·exact rnew b h1
    ·exact .inr (by omega)
   ·exact .inr (by omega)
  ·exact ⟨(rgh q hq).1,V.zt5 t4 _ _ (pgh q (by rw [hgh1];exact List.mem_append_left _ hq)).2⟩
 exact @R.put G2 D0 _ _ _ _ _ _ hRC (Fr.refl _ _) o.dst hd (.d (.bool true)) (.bool true) (zt.2 rfl)
theorem Tri.rangeFunc {G0} [D0:Drw] {P} {fnC} {A} {w0} {n N p b0:Nat} {y} {s0} {T} {H} {g} {x asg body tail} {fi} {fs} {fn} {c} {Q} {K:List Blk→Prop}
  (hx0 : @Tri G0 D0 P ⟨A,ze,w0,n,λ_ _=>False,[],0,[]⟩ x (λe s=>e = .normal∧s=⟨T,H⟩) s0) (hx:ev T g=some (.d (.fn (.func fi) fs []))) (hc:ztF P fi=true) (hf:P.funcs[fi]? = some fn) (hb:fn.body=some c) (hN:fn.ntmps=N) (hres:fn.results = #[])
  (hn:Nat.ble (fs.length+1) N=true) (hu:(T.all λq=>q.2.under H.length)=true)
  (h:∀ (l Dd:Nat) (rec) (own0:Nat→Prop) (w:World) (gh) (G'),l≠Dd→@ztC.gs G'=(l,.loop rec)::(Dd,.deferred (some []))::@ztC.gs G0→(∀ q∈@ztC.gs G0,q.1≠l)→(rec.state = .ready∧rec.pending=none∧rec.params = #[p]∧rec.tmps.size=n) →
   rec.assign=asg→rec.body=body→own0 l→(∀ t v,look t T=some v→(v,rec.tmps.getD t Go.undef)∈gh) →
   @Tri G' D0 P ⟨A,own0,w,N,λ_ _=>False,gh,H.length,[]⟩ c (retV [] λ_ H2=>K H2) ⟨zbE 0 (fs.map .d++[.d (.fn (.yield l) [] [])]),H⟩)
  (k:∀ (Dd) (H2) (G'),@ztC.gs G'=(Dd,.deferred (some []))::@ztC.gs G0→K H2→@Tri G' D0 P ⟨A,ze,w0,n,λ_ _=>False,[],0,[{ target:=.collected Dd,args:=#[] }]⟩ tail (λe s=>e = .ret∧retQ P fnC.results y e s) ⟨T,H2⟩) :
  @Tri G0 D0 P ⟨A,ze,w0,n,λa' w'=>LeavesInM Fence.wide 0 P fnC a'.tmps (zge A w0 y) a'.defers .returning w',[],0,[]⟩ (.seq (.seq x (.block b0 (.rangeFunc g #[p] asg body))) tail) Q s0:=by
 subst hN;have hn:=yq hn;refine @Tri.mk G0 D0 _ _ _ _ _ λbs a w' hR=>?_
 have hR0 : @R G0 D0 ⟨A,ze,w0,n,λ_ _=>False,[],0,[]⟩ bs s0 a w':=by
  obtain ⟨q1,q2,q3,q4,q5,q6,q7,q8,q9⟩:=hR;exact @R.mk G0 D0 _ _ _ _ _ q1 q2 q3 q4 q5 q6 q7 q8 q9
 refine wp_seq (wp_seq (Code.wp_mono ?_ (@Tri.run G0 D0 _ _ _ _ _ hx0 bs a w' hR0)));rintro e a w3 (⟨bs,s,⟨rfl,rfl⟩,hR⟩ | ⟨_,hE⟩)
 case inr=>exact hE.elim
 simp only [Exit.then];clear hR0;have e1:=@R.ev G0 D0 _ _ _ _ _ hR _ _ hx;have hRf:=λ{w'} (f:Fr ze w3 w')=>@R.put G0 D0 _ _ _ _ _ _ hR f none rfl .junk Go.undef (by simp only [V.rep])
 obtain ⟨⟨o1,o2,o3,o4,og⟩,rlen,rblk,rtmp,rdef,rsz,rfr,rnew,rgh⟩:=hR;simp only [V.rep,D.rep] at e1;obtain ⟨vs,us,e1,hvs,hus⟩:=e1;simp only [D.reps] at hus;have hus:us = #[]:=by simpa using hus
 subst hus;refine (wpIn_wide (n:=0)).1 (wpIn_block (wpIn_rangeFunc ?_));intro fnid _;obtain ⟨rec,hrec⟩:∃ rec:Loop,rec = { state:=.ready,pending:=none,fn:=fnid,tmps:=a.tmps,params:=#[p],assign:=asg,body:=body,defers:=w3.heap.size }:=⟨_,rfl⟩
 obtain ⟨l,hl⟩:∃ l,l=w3.heap.size+1:=⟨_,rfl⟩
 obtain ⟨Dd,hDd⟩:∃ Dd,Dd=w3.heap.size:=⟨_,rfl⟩
 obtain ⟨w4,hw4⟩:∃ w4,(w3.alloc (.deferred (some []))).alloc (.loop rec)=w4:=⟨_,rfl⟩
 have hold:∀ q,q<w3.heap.size→w4.heap[q]? = w3.heap[q]?:=λq hq=>by rw [← hw4];exact (Below.heap_alloc _ _ q (by simp;omega)).trans (Below.heap_alloc _ _ q hq)
 have hL4:w4.heap[l]? = some (.loop rec):=by rw [← hw4,hl];have:=World.alloc_heap_new (w3.alloc (.deferred (some []))) (.loop rec);rwa [World.size_alloc] at this
 have hD4:w4.heap[Dd]? = some (.deferred (some [])):=by rw [← hw4,hDd];exact (Below.heap_alloc _ _ _ (by simp)).trans (World.alloc_heap_new w3 _)
 have hs4:w4.heap.size=w3.heap.size+2:=by rw [← hw4];simp
 have hfr4:Fr ze w3 w4:=by
  rw [← hw4];exact (⟨rfl,rfl,rfl,by simp,λb hb _=>Below.heap_alloc _ _ b hb,λ_=>ym _⟩:Fr ze w3 (w3.alloc (.deferred (some [])))).trans ⟨rfl,rfl,rfl,by simp,λb hb _=>Below.heap_alloc _ _ b hb,λ_=>ym _⟩
 refine ⟨l,[{ target:=.collected Dd,args:=#[] }],w4,{ target:=.fn (.func fi) #[],args:=vs++#[.func (.yield l) #[] #[]] },w4,fi,vs++#[.func (.yield l) #[] #[]]++#[],w4,?_,?_,λ_ _=>trivial,?_,λh=>by simp [Fence.wide] at h,?_⟩
 ·rw [← hw4,hl,hDd,hrec];exact run_enterLoop_outer _ _ _ _ _
 ·have ek:∀ v,a.eval (.const v)=v:=λ_=>rfl
  simp [resolve,e1,Deferred.ofValue,ek]
 ·simp only [invoke];exact zaX hc _ w4
 have hR4:=hRf hfr4;obtain ⟨⟨q1,q2,q3,q4,qg⟩,qlen,qblk,qtmp,qdef,qsz,qfr,qnew,_⟩:=hR4;have hlA:¬ Own A bs l:=λh=>by
  rcases h with h | h
  ·have:=o4 l h;omega
  ·have:=o3 l h;omega
 have hDA:¬ Own A bs Dd:=λh=>by
  rcases h with h | h
  ·have:=o4 Dd h;omega
  ·have:=o3 Dd h;omega
 have hgl:∀ q∈@ztC.gs G0,q.1<w3.heap.size:=λq hq=>(yk.1 (og q hq).2).1
 obtain ⟨G',hG'⟩:∃ G':ztC,@ztC.gs G'=(l,.loop rec)::(Dd,.deferred (some []))::@ztC.gs G0:=⟨⟨_⟩,rfl⟩
 obtain ⟨GD,hGD⟩:∃ G':ztC,@ztC.gs G'=(Dd,.deferred (some []))::@ztC.gs G0:=⟨⟨_⟩,rfl⟩
 have hargs:(vs++#[Value.func (.yield l) #[] #[]]++#[]:Array Value)=vs++#[Value.func (.yield l) #[] #[]]:=by simp
 rw [hargs];have hvl:=D.ztS hvs;simp only [yF] at hvl;have hreps:V.reps (Own A bs) w4 bs H (fs.map .d++[.d (.fn (.yield l) [] [])]) (vs++#[Value.func (.yield l) #[] #[]]:Array Value).toList:=by
  simp only [Array.toList_append];refine V.zt6 ?_ ?_
  ·have:=D.zwP hfr4 hvs;have key:∀ (ds:List D) (vs:List Value),D.reps (Own A bs) w4 ds vs→V.reps (Own A bs) w4 bs H (ds.map .d) vs:=by
    intro ds
    induction ds with
    | nil=>intro vs h;simpa only [D.reps,List.map_nil,V.reps] using h
    | cons d ds ih=>
     intro vs h;simp only [D.reps] at h;obtain ⟨v,vs',rfl,h1,h2⟩:=h;simp only [yY,V.reps,V.rep];exact ⟨v,vs',rfl,h1,ih _ h2⟩
   exact key _ _ this
  ·simp [V.reps,V.rep,D.rep,D.reps]
 have hRi : @R G' D0 ⟨A,λb=>some b∈bs∨b=l,w4,fn.ntmps,λ_ _=>False,vals a T T,H.length,[]⟩ bs ⟨zbE 0 (fs.map .d++[.d (.fn (.yield l) [] [])]),H⟩ { tmps:=(vs++#[Value.func (.yield l) #[] #[]])++Array.replicate (fn.ntmps - (vs++#[Value.func (.yield l) #[] #[]]).size) undef,defers:=[] } w4:=by
  have hsz:((vs++#[Value.func (.yield l) #[] #[]])++Array.replicate (fn.ntmps - (vs++#[Value.func (.yield l) #[] #[]]).size) undef).size=fn.ntmps:=by simp;omega
  refine @R.mk G' D0 _ _ _ _ _ (@zvY.mk G' _ _ _ q1 q2 q3 q4 λq hq=>?_) qlen qblk (λt v hv=>?_) rfl hsz (Fr.refl _ _) (λb hb=>.inl (.inl hb)) λq hq=>?_
  ·rw [hG'] at hq;rcases yG.1 hq with rfl | hq
   ·exact ⟨hlA,hL4⟩
   rcases yG.1 hq with rfl | hq
   ·exact ⟨hDA,hD4⟩
   ·exact qg q hq
  ·have:=zcL _ 0 _ ((vs++#[Value.func (.yield l) #[] #[]])++Array.replicate (fn.ntmps - (vs++#[Value.func (.yield l) #[] #[]]).size) undef) hreps
    (λj hj=>by
     have hj':j<(vs++#[Value.func (.yield l) #[] #[]]).size:=by simpa using hj
     rw [uh,y6,Array.getElem?_append_left hj',List.getD,yZ])
    (by rw [hsz];simp;omega) t v hv
   rw [hsz] at this;exact this
  ·obtain ⟨t,h1,h2⟩:=zdP hq;exact ⟨zdk hu h1,by rw [h2];exact (qtmp t _ h1).2⟩
 have htri:=h l Dd rec (λb=>some b∈bs∨b=l) w4 (vals a T T) G' (by omega) hG' (λq hq=>by have:=hgl q hq;omega) (by rw [hrec];exact ⟨rfl,rfl,rfl,rsz⟩) (by rw [hrec]) (by rw [hrec]) (.inr rfl) (λt v hv=>by rw [hrec];exact zdv hv hv);refine callsIn_wide.2 (calls_of_wp hf hb (Code.wp_mono ?_ (@Tri.run G' D0 _ _ _ _ _ htri bs _ w4 hRi)));rintro e a' w5 (⟨bs',s',⟨he,ys,hys,hk⟩,hR5⟩ | ⟨_,hE⟩)
 case inr=>exact hE.elim
 obtain ⟨⟨p1,p2,p3,p4,pg⟩,plen,pblk,ptmp,pdef,psz,pfr,pnew,pgh⟩:=hR5;have hrun:(results fn a'.tmps).run P w5 = .ok (.tuple #[]) w5:=by
  rw [zbU,hres];simp [Sem.run_bind,Sem.run_pure]
 have hfin:rangePost Fence.wide 0 P l (Exit.inBlock b0 (Exit.then (tail.wp P (@QR G0 D0 ⟨A,ze,w0,n,λa' w'=>LeavesInM Fence.wide 0 P fnC a'.tmps (zge A w0 y) a'.defers .returning w',[],0,[]⟩ Q)) (@QR G0 D0 ⟨A,ze,w0,n,λa' w'=>LeavesInM Fence.wide 0 P fnC a'.tmps (zge A w0 y) a'.defers .returning w',[],0,[]⟩ Q))) { a with defers:=[{ target:=.collected Dd,args:=#[] }]++a.defers } (.returned (.tuple #[])) w5:=by
  have hL5:=(pg (l,.loop rec) (by rw [hG'];simp)).2;have hD5:=(pg (Dd,.deferred (some [])) (by rw [hG'];simp)).2;simp only at hL5 hD5;simp only [rangePost];refine ⟨none,w5.putObj l (.loop { rec with state:=.exhausted }),by have:=run_endLoop (P:=P) hL5 (by rw [hrec];simp);rw [this,hrec],?_⟩;simp only [Exit.inBlock,Exit.then];obtain ⟨w6,hw6⟩:∃ w6,w6=w5.putObj l (.loop { rec with state:=.exhausted }):=⟨_,rfl⟩
  rw [← hw6];have t6:Turn w5 w6:=by rw [hw6];exact Turn.put hL5 rfl
  have hput6:∀ q,q≠l→w6.heap[q]? = w5.heap[q]?:=λq hq=>by rw [hw6];exact World.putObj_heap_other hq
  have hlbs':∀ b,some b∈bs'→(some b∈bs∨b=l)∨w4.heap.size≤b:=pnew;have hR6 : @R GD D0 ⟨A,ze,w0,n,λ_ _=>False,[],0,[{ target:=.collected Dd,args:=#[] }]⟩ bs' ⟨T,s'.H⟩ { a with defers:=[{ target:=.collected Dd,args:=#[] }]++a.defers } w6:=by
   refine @R.mk GD D0 _ _ _ _ _ (@zvY.mk GD _ _ _ p1 p2 (λb hb=>by rw [t6.size];exact p3 b hb) (λb hb=>by rw [t6.size];exact p4 b hb) λq hq=>?_) plen (λi k hk=>Blk.zt5 t6 i k (pblk i k hk)) (λt v hv=>?_) (by simp only;rw [rdef];rfl) rsz ?_ (λb hb=>?_) (λq hq=>(by cases hq))
   ·rw [hGD] at hq;have hq':q∈@ztC.gs G':=by rw [hG'];exact yW _ hq
    have hne:q.1≠l:=by
     rcases yG.1 hq with rfl | hq
     ·simp only;omega
     ·have:=hgl q hq;omega
    exact ⟨(pg q hq').1,by rw [hput6 _ hne];exact (pg q hq').2⟩
   ·exact ⟨(rtmp t v hv).1,V.zt5 t6 _ _ (pgh _ (zdv hv hv)).2⟩
   ·have f5:Fr (λb=>some b∈bs∨b=l) w4 w5:=pfr;have f6:Fr (λb=>some b∈bs∨b=l) w5 w6:=by rw [hw6];exact ⟨rfl,rfl,rfl,by simp,λb _ hn=>World.putObj_heap_other (λe=>hn (.inr e)),λ_=>ym _⟩
    have f46:=(hfr4.mono (W':=λb=>some b∈bs∨b=l) λ_ _ x=>x.elim).trans (f5.trans f6);have rfr':Fr ze w0 w3:=rfr;refine ⟨f46.os.trans rfr'.os,f46.tape.trans rfr'.tape,f46.output.trans rfr'.output,yH rfr'.size f46.size,λq hq hno=>?_,λd=>yH (rfr'.drawn d) (f46.drawn d)⟩;have:=rfr'.size;have hq:q<w0.heap.size:=hq;refine (f46.block q (by omega) λe=>?_).trans (rfr'.block q hq hno);rcases e with e | e
    ·have h3:ze q∨w0.heap.size≤q:=rnew q e;exact h3.elim (λx=>x) (λh=>by omega)
    ·omega
   ·have hz:w0.heap.size≤w3.heap.size:=rfr.size;rcases hlbs' b hb with (h1 | h1) | h1
    ·exact rnew b h1
    ·exact .inr (by simp only;omega)
    ·exact .inr (by simp only;omega)
  have hR6' : @R GD D0 ⟨A,ze,w0,n,λ_ _=>False,[],0,[{ target:=.collected Dd,args:=#[] }]⟩ bs' ⟨T,s'.H⟩ { a with defers:=[{ target:=.collected Dd,args:=#[] }]++a.defers } w6:=hR6;refine Code.wp_mono ?_ (@Tri.run GD D0 _ _ _ _ _ (k Dd s'.H GD hGD hk) _ _ _ hR6');rintro e a7 w7 (⟨bs7,s7,⟨rfl,he7,ds,hy7,hres7⟩,hR7⟩ | ⟨_,hE⟩)
  case inr=>exact hE.elim
  refine .inr ⟨rfl,?_⟩;have hg7 : @zdh GD (Own A bs7) w7:=by
   obtain ⟨⟨_,_,_,_,g⟩,_⟩:=hR7;exact g
  have hdf7:a7.defers=[{ target:=.collected Dd,args:=#[] }]:=by
   obtain ⟨_,_,_,_,d,_⟩:=hR7;exact d
  have hfr7:Fr ze w0 w7:=by
   obtain ⟨_,_,_,_,_,_,f,_,_⟩:=hR7;exact f
  have hnew7:∀ b,some b∈bs7→ze b∨w0.heap.size≤b:=by
   obtain ⟨_,_,_,_,_,_,_,f,_⟩:=hR7;exact f
  have hD7:=(hg7 (Dd,.deferred (some [])) (by rw [hGD];simp)).2;simp only at hD7;obtain ⟨w8,hw8⟩:∃ w8,w8=w7.putObj Dd (.deferred none):=⟨_,rfl⟩
  have hput8:∀ q,q≠Dd→w8.heap[q]? = w7.heap[q]?:=λq hq=>by rw [hw8];exact World.putObj_heap_other hq
  have hfr8:Fr ze w0 w8:=by
   have hz:w0.heap.size≤w3.heap.size:=rfr.size;refine ⟨by rw [hw8];exact hfr7.os,by rw [hw8];exact hfr7.tape,by rw [hw8];exact hfr7.output,by rw [hw8];simpa using hfr7.size,λq hq hno=>(hput8 q (by omega)).trans (hfr7.block q hq hno),by rw [hw8];exact hfr7.drawn⟩
  have hR8:=R.turn (G':=G0) (C':=⟨A,ze,w0,n,λ_ _=>False,[],0,[{ target:=.collected Dd,args:=#[] }]⟩) hR7 (w':=w8) (by rw [hw8];exact Turn.put hD7 rfl) rfl rfl rfl rfl rfl hfr8 hnew7 λq hq=>by
   have hne:q.1≠Dd:=by have:=hgl q hq;omega
   have:=hg7 q (by rw [hGD];exact yW _ hq);exact ⟨this.1,by rw [hput8 _ hne];exact this.2⟩
  obtain ⟨u,hu1,hu2⟩:=@zqn G0 D0 _ _ _ _ _ _ _ _ _ hy7 hres7 hR8;show LeavesInM Fence.wide 0 P fnC a7.tmps (zge A w0 y) a7.defers .returning w7;rw [hdf7];exact ⟨by simp,.inl ⟨Dd,w8,rfl,by rw [hw8];exact run_takeDeferred hD7,u,hu1,u,rfl,hfr8,hu2⟩⟩
 rcases he with rfl | rfl
 ·exact ⟨pdef,_,hrun,hfin⟩
 ·exact ⟨pdef,_,hrun,hfin⟩
section
variable [ztC] [Drw]
structure zwV (P:Program) (f:FuncId) (xs:List D) (t:TypeId) (k:Nat) (Y:List D→Prop):Prop where
 run:∀ (A:Nat→Prop) (w:World) (vs:Array Value),(∀ b,A b→b<w.heap.size)→zdh A w→D.reps A w xs vs.toList →
  Calls P f vs w (λe w'=>∃ u l cells,e = .returned u∧Y l∧Fr ze w w'∧w'.ownsRow w.heap.size t k u l.length cells∧D.flat (λb=>A b∨u.ownBlock=some b) w' k l cells)
def zq0 (A:Nat→Prop) (w:World) (t:TypeId) (k:Nat) (Y:List D→Prop) (e:Ending) (w':World):Prop:=
 ∃ u l cells,e = .returned u∧Y l∧Fr ze w w'∧w'.ownsRow w.heap.size t k u l.length cells∧D.flat (λb=>A b∨u.ownBlock=some b) w' k l cells
def zrC (tt:Tmp) (t:TypeId) (k:Nat) (Y:List D→Prop) (s:St):Prop:=∃ i l,look tt s.T=some (.vec i l.length)∧s.H[i]? = some (.vec t k l)∧Y l
theorem zpV {P} {fn} {tt} {A} {w} {n} {esc gh gn df t k Y bs s a w'} (hrs:fn.results = #[.tmp tt]) (hq:zrC tt t k Y s) (hR:R ⟨A,ze,w,n,esc,gh,gn,df⟩ bs s a w') :
  ∃ u,(results fn a.tmps).run P w' = .ok u w'∧zq0 A w t k Y (.returned u) w':=by
 obtain ⟨i,l,r,v,y⟩:=hq;have j:=(hR.tmp tt _ r).2;simp only [V.rep,v] at j;obtain ⟨c,m,z,q⟩:=j.2 trivial;refine ⟨a.tmps.getD tt undef,?_,⟨_,l,c,rfl,y,hR.fr,⟨m.1,?_⟩,D.ztU (Fr.refl ze w') (λ_ x=>x.elim) (λb _ d=>?_) _ _ q⟩⟩
 ·rw [zbU,hrs];simp [zeb]
 ·rcases m.2 with h | ⟨g,e,f,o,_,B⟩
  ·simp_all
  ·refine .inr ⟨g,e,f,o,?_,B⟩;have p:bs[i]? = some (some g):=by rw [z,o];rfl
   exact (hR.new g (yz p)).elim (λx=>x.elim) id
 ·rcases d with d | d
  ·exact .inl d
  ·exact .inr (by grind)
theorem znz {A} {w} {fn:Func} {xs} {vs} {esc} (hn:xs.length≤fn.ntmps) (hA:∀ b,A b→b<w.heap.size) (hG:zdh A w) (hr:D.reps A w xs vs.toList) :
  R ⟨A,ze,w,fn.ntmps,esc,[],0,[]⟩ [] ⟨params 0 xs,[]⟩ { tmps:=vs++Array.replicate (fn.ntmps - vs.size) undef,defers:=[] } w:=by
 have e:=D.ztS hr;have a:(vs++Array.replicate (fn.ntmps - vs.size) undef).size=fn.ntmps:=by
  simp_all
 refine ⟨⟨by simp,by simp,by simp,hA,hG.fr (Fr.refl ze w) (λ_ x=>x.elim) (λb _ d=>d.elim id (λh=>by grind))⟩,rfl,by simp,λt v f=>?_,rfl,a,Fr.refl _ _,by simp,λp g=>(by cases g)⟩;have:=zdK (A:=Own A []) (w:=w) (bs:=[]) (H:=[]) xs 0 vs.toList (vs++Array.replicate (fn.ntmps - vs.size) undef)
  (D.zt8 (Fr.refl ze w) (λ_ x=>x.elim) (λb _ d=>d.elim id (λh=>by grind)) xs _ hr)
  (λj i=>by
   have c:j<vs.size:=by simp_all
   simp [Array.getElem?_append,c])
  (by simp_all) t v f
 grind
theorem zwV.zwr {P} {f} {fn} {c} {xs} {tt} {t k Y} (hf:P.funcs[f]? = some fn) (hb:fn.body=some c) (hrs:fn.results = #[.tmp tt]) (hn:xs.length≤fn.ntmps)
  (h:∀ A w,Tri P ⟨A,ze,w,fn.ntmps,λ_ _=>False,[],0,[]⟩ c (λe s=>e = .ret∧zrC tt t k Y s) ⟨params 0 xs,[]⟩):zwV P f xs t k Y:=by
 refine ⟨λA w p j m i=>?_⟩;refine calls_of_wp hf hb (Code.wp_mono ?_ ((h A w).run [] _ w (znz hn j m i)));rintro e o n (⟨g,r,⟨rfl,l⟩,d⟩ | ⟨_,q⟩)
 case inr=>simp_all
 obtain ⟨u,a,b⟩:=zpV (P:=P) hrs l d;exact ⟨d.defers,u,a,b⟩
variable {P:Program} {C:Ctx} {ops:Array Oper} {o:Oper} {rest:List Oper} {Q:Exit→St→Prop} {T:List (Nat×V)} {H:List Blk} {e:Operand→Option V}
theorem TriL.zxU {f args tys xs t k Y d} (hg:o.guard=none) (ho:o.op = .call { callee:=.value (.func f),args:=args,argTypes:=tys }) (hd:o.dst=some d) (hdn:Nat.blt d C.n=true) (hc:ztF P f=true) (ha:evs (ev T) args.toList=some xs) (hp:zwV P f xs t k Y)
  (kk:∀ l,Y l→TriL P C ops rest Q ⟨(d,.vec H.length l.length)::T,H++[.vec t k l]⟩):TriL P C ops (o::rest) Q ⟨T,H⟩:=by
 refine ⟨λbs a w hR=>wpList_plain hg λK hK=>?_⟩;have hk:∀ k,a.eval (.func k) = .func (.func k) #[] #[]:=λ_=>rfl
 have hrun:(execOp a.eval o).run P w = .ok (.enter f (args.map a.eval)) w:=by
  simp only [execOp,ho,resolve,hk,Deferred.ofValue,Sem.run_bind,Sem.run_pure,Result.andThen_ok,invoke];simpa using zaX hc (args.map a.eval) w
 have hreps:D.reps (Own C.A0 bs) w xs (args.map a.eval).toList:=by
  have:=zeJ (A:=Own C.A0 bs) (w:=w) (bs:=bs) (H:=H) (f:=a.eval) ha (λx _ y hy=>hR.ev hy);simp_all
 have hAlt:∀ b,Own C.A0 bs b→b<w.heap.size:=λb hb=>hb.elim (hR.own.ztL b) (hR.own.lt b)
 have hlen:=hR.len;simp only at hlen;refine Oper.zuO (K:=λu w'=>∃ l cells,Y l∧Fr ze w w'∧w'.ownsRow w.heap.size t k u l.length cells∧D.flat (λb=>Own C.A0 bs b∨u.ownBlock=some b) w' k l cells) ?_ λu w' ⟨l,cells,hY,hf,hown,hfl⟩=>?_
 ·rw [hrun];refine (hp.run (Own C.A0 bs) w (args.map a.eval) hAlt hR.own.glob hreps).mono ?_;simp_all
 ·have hbl:∃ bs',R C bs' ⟨(d,.vec H.length l.length)::T,H++[.vec t k l]⟩ (a.put o.dst u) w':=by
   rcases hown.2 with ⟨hnil,h0⟩ | ⟨g,cap,cur,hu,hbase,hheap,hrest⟩
   ·have h1:R C (bs++[none]) ⟨T,H++[.vec t k l]⟩ a w':=by
     have:=hR.put hf none rfl (v:=.junk) (u:=undef) (by grind [V.rep]);exact R.zwk (k:=.vec t k l) this λ_ _ _=>by grind [Blk.rep]
    refine ⟨bs++[none],?_⟩;have:=h1.put (Fr.refl _ _) (some d) (by grind [zt2]) (v:=.vec H.length l.length) (u:=u) (by
     simp only [V.rep];rw [yP (ym _)];simp only [uv,yT];refine ⟨ym _,λ_=>⟨cells,⟨hown.1,.inl ⟨hnil,h0⟩⟩,by grind [Value.ownBlock],D.ztU (Fr.refl ze w') (λ_ x=>x.elim) (λb _ hb=>.inl ?_) _ _ hfl⟩⟩;rcases hb with hb | hb
     ·exact .inl hb
     ·rcases yu.1 hb with hb | hb
      ·exact .inr hb
      simp_all)
    rw [hd];exact this
   ·have hgA:¬ C.A0 g:=λh=>absurd (hR.own.ztL g h) (by omega)
    have hgl:g<w'.heap.size:=(yk.1 hheap).1;have h1:R { C with A0:=λc=>C.A0 c∨c=g } bs ⟨T,H⟩ a w':=
     hR.zuu (A:=λc=>C.A0 c∨c=g) hf (λb hb hb'=>hb'.elim id (λe=>by omega)) (λb hb=>by
      rcases hb with hb | rfl
      ·exact yA (hR.own.ztL b hb) hf.size
      simp_all)
    have h2:=R.zwH (C:=C) t k l h1 hheap hgA (yH hR.fr.size hbase);refine ⟨bs++[some g],?_⟩;have:=h2.put (Fr.refl _ _) (some d) (by grind [zt2]) (v:=.vec H.length l.length) (u:=u) (by
     simp only [V.rep];rw [yP (ym _)];simp only [uv,yT];refine ⟨ym _,λ_=>⟨cells,⟨hown.1,.inr ⟨g,cap,cur,hu,yo _,hheap,hrest⟩⟩,by grind [Value.ownBlock],D.ztU (Fr.refl ze w') (λ_ x=>x.elim) (λb _ hb=>?_) _ _ hfl⟩⟩;rcases hb with hb | hb
     ·exact .inl (.inl hb)
     ·rcases yu.1 hb with hb | hb
      ·exact .inl (.inr hb)
      ·simp only [yM,yn] at hb;subst hb;exact .inr (by rw [hu];rfl))
    rw [hd];exact this
  obtain ⟨bs',hR'⟩:=hbl;exact hK _ _ ((kk l hY).run bs' _ _ hR')
variable {κ β:Type} {ke:κ→Value} {ve:β→D}
end
section
variable [ztC] [Drw]
theorem OpV.zwO {P o e H t x d v fs} (ho:o.op = .makeInterface t x) (ht:P.underlying t=some (.struct fs)) (hx:e x=some (.d d)) (hv:IsV d v):OpV P o e H (.d (.val (.iface t v))):=by
 refine ⟨λA f w g j a h i=>?_⟩;have c:=a x (by grind [Op.operands]) _ hx;have b:=(hv.eq _ _ _).1 c;have:(execOp g o).run P w = .ok (.value (.iface t v)) w:=by
  simp only [execOp,ho,b,Instr.makeInterface,Sem.run_bind,run_underlying ht,Result.andThen_ok,Sem.run_pure]
 rw [this];exact ⟨Fr.refl _ _,by grind [V.rep,D.rep]⟩
theorem TriL.panic {P C ops o rest Q s x t v} (hg:o.guard=none) (ho:o.op = .panic x) (hx:ev s.T x=some (.d (.val (.iface t v)))) (h:Q (.panic [{ v:=.iface t v,recovered:=false }]) s):TriL P C ops (o::rest) Q s:=by
 refine ⟨λe a w b=>wpList_plain hg λK f=>?_⟩;have c:=b.ev hx;unfold Oper.wp;have:(execOp a.eval o).run P w = .halt (.panic (.iface t v)) w:=by
  simp only [execOp,ho];rw [c];rfl
 rw [this];exact .inl ⟨e,s,h,b⟩
structure zvu (P:Program) (f:FuncId) (pv:Value) (t:TypeId) (cs:List D) (vt:TypeId) (vk:Nat) (xs:List D) (zs:List D) (o:Option (D×List D)):Prop where
 run:∀ (A:Nat→Prop) (w:World) (b:Nat) (hdr:Value) (vs us:Array Value) (cells vr:List Value),(∀ c,A c→c<w.heap.size)→zdh (λc=>A c∨c=b∨hdr.ownBlock=some c) w→¬ A b→b<w.heap.size →
  (∀ c,hdr.ownBlock=some c→¬ A c∧c≠b∧c<w.heap.size)→w.heap[b]? = some (.cells us t (0,0))→D.reps (λc=>A c∨c=b∨hdr.ownBlock=some c) w cs us.toList →
  w.ownsRow 0 vt vk hdr xs.length cells→D.flat (λc=>A c∨c=b∨hdr.ownBlock=some c) w vk xs cells →
  vs.toList = .pointer (some ⟨b,0,none⟩)::hdr::vr→D.reps (λc=>A c∨c=b∨hdr.ownBlock=some c) w zs vr →
  Calls P f vs w (λe w'=>∃ us' cs',Fr (λc=>c=b∨hdr.ownBlock=some c) w w'∧w'.heap[b]? = some (.cells us' t (0,0))∧D.reps (λc=>A c∨c=b∨hdr.ownBlock=some c) w' cs' us'.toList ∧
   ((∃ y u,o=some (y,cs')∧e = .returned u∧D.rep (λc=>A c∨c=b∨hdr.ownBlock=some c) w' y u)∨(o=none∧e = .panicked [{ v:=pv,recovered:=false }])))
def turn2Q (tt:Tmp) (ty:TypeId) (P:Program) (pv:Value) (t:TypeId) (m:Nat) (o:Option (D×List D)) (e:Exit) (s:St):Prop:=
 (∃ i T ds cs',o=some (.agg ds,cs')∧e = .ret∧look tt s.T=some (.loc i 0)∧s.H[i]? = some (.box T (List.map V.d ds))∧zae P ty=some (some ds.length)∧s.H[0]? = some (.box t (List.map V.d cs'))∧∃ t1 k1 xs',s.H[1]? = some (.vec t1 k1 xs')∧xs'.length=m) ∨
 (∃ cs',o=none∧e = .panic [{ v:=pv,recovered:=false }]∧s.H[0]? = some (.box t (List.map V.d cs'))∧∃ t1 k1 xs',s.H[1]? = some (.vec t1 k1 xs')∧xs'.length=m)
theorem zvu.zwr {P:Program} {f:FuncId} {fn:Func} {c:Code} {pv t cs vt vk xs zs o} {tt:Tmp} {ty:TypeId} (hf:P.funcs[f]? = some fn) (hb:fn.body=some c) (hrs:fn.results = #[.cell tt ty]) (hn:zs.length+2≤fn.ntmps)
  (h:∀ (A:Nat→Prop) (b:Nat) (hdr:Value) (w:World),Tri P ⟨A,λc=>c=b∨hdr.ownBlock=some c,w,fn.ntmps,λ_ _=>False,[(.loc 0 0,.pointer (some ⟨b,0,none⟩)),(.vec 1 xs.length,hdr)],2,[]⟩ c (turn2Q tt ty P pv t xs.length o) ⟨(0,.loc 0 0)::(1,.vec 1 xs.length)::params 2 zs,[.box t (cs.map V.d),.vec vt vk xs]⟩):zvu P f pv t cs vt vk xs zs o:=by
 refine ⟨λA w b hdr vs us cells vr hA hG hAb hbw hq hh hcs hrow hflat hvs hr=>?_⟩;have hlen:=D.ztS hr;have hvl:vs.size=zs.length+2:=by
  have:=congrArg List.length hvs;simp at this;omega
 have hown:∀ c,Own A [some b,hdr.ownBlock] c↔(A c∨c=b∨hdr.ownBlock=some c):=λc=>by
  simp only [Own,yG,yn,List.not_mem_nil,or_false];exact ⟨λh=>h.elim .inl λh=>h.elim (λh=>.inr (.inl h)) λh=>.inr (.inr h.symm),λh=>h.elim .inl λh=>h.elim (λh=>.inr (.inl h)) λh=>.inr (.inr h.symm)⟩
 have hownE:Own A [some b,hdr.ownBlock]=λc=>A c∨c=b∨hdr.ownBlock=some c:=funext λc=>propext (hown c)
 have hsz:(vs++Array.replicate (fn.ntmps - vs.size) undef).size=fn.ntmps:=by simp;omega
 have hget:∀ j,j<vs.size→(vs++Array.replicate (fn.ntmps - vs.size) undef).getD j undef=vs.toList.getD j undef:=λj hj=>by
  simp [y6,Array.getElem?_append_left hj,List.getD]
 have hR:R ⟨A,λc=>c=b∨hdr.ownBlock=some c,w,fn.ntmps,λ_ _=>False,[(.loc 0 0,.pointer (some ⟨b,0,none⟩)),(.vec 1 xs.length,hdr)],2,[]⟩ [some b,hdr.ownBlock] ⟨(0,.loc 0 0)::(1,.vec 1 xs.length)::params 2 zs,[.box t (cs.map V.d),.vec vt vk xs]⟩ { tmps:=vs++Array.replicate (fn.ntmps - vs.size) undef,defers:=[] } w:=by
  have hvec:V.rep (Own A [some b,hdr.ownBlock]) w [some b,hdr.ownBlock] [.box t (cs.map V.d),.vec vt vk xs] (.vec 1 xs.length) hdr:=by
   simp only [V.rep,uE,yT];exact ⟨ym _,λ_=>⟨cells,hrow,trivial,by rw [hownE];exact hflat⟩⟩
  refine ⟨⟨λi j q hi hj=>?_,λq hq2=>?_,λq hq2=>?_,hA,by rw [hownE];exact hG⟩,rfl,λi k hk=>?_,λu v hv=>?_,rfl,hsz,Fr.refl _ _,λq hq2=>?_,λp hp=>?_⟩
  ·match i,j with
   | 0,0=>rfl
   | 1,1=>rfl
   | 0,1=>
    simp only [yT,uE,yn] at hi hj;exact absurd hi.symm (hq q hj).2.1
   | 1,0=>
    simp only [yT,uE,yn] at hi hj;exact absurd hj.symm (hq q hi).2.1
   | n+2,_=>simp at hi
   | _,n+2=>simp at hj
  ·simp only [yG,yn,List.not_mem_nil,or_false] at hq2;rcases hq2 with rfl | e
   ·exact hAb
   ·exact (hq q e.symm).1
  ·simp only [yG,yn,List.not_mem_nil,or_false] at hq2;rcases hq2 with rfl | e
   ·exact hbw
   ·exact (hq q e.symm).2.2
  ·match i with
   | 0=>
    simp only [yT,yn] at hk;subst hk;simp only [Blk.rep];exact ⟨b,us,rfl,hh,V.zvA.2 (by rw [hownE];exact hcs)⟩
   | 1=>
    simp only [yT,uE,yn] at hk;subst hk;simp only [Blk.rep]
   | n+2=>simp at hk
  ·simp only [zbc] at hv;split at hv
   ·rename_i e;cases hv;subst e;refine ⟨by grind,?_⟩;simp only [V.rep,yT];refine ⟨b,rfl,?_⟩;show (vs++Array.replicate (fn.ntmps - vs.size) undef).getD 0 undef=_;rw [hget 0 (by omega),hvs];rfl
   ·split at hv
    ·rename_i e;cases hv;subst e;refine ⟨by show 1<fn.ntmps;omega,?_⟩;have:(vs++Array.replicate (fn.ntmps - vs.size) undef).getD 1 undef=hdr:=by rw [hget 1 (by omega),hvs];rfl
     show V.rep _ _ _ _ _ ((vs++Array.replicate (fn.ntmps - vs.size) undef).getD 1 undef);rw [this];exact hvec
    ·have:=zdK (A:=Own A [some b,hdr.ownBlock]) (w:=w) (bs:=[some b,hdr.ownBlock]) (H:=[.box t (cs.map V.d),.vec vt vk xs]) zs 2 vr (vs++Array.replicate (fn.ntmps - vs.size) undef) (by rw [hownE];exact hr)
      (λj hj=>by
       rw [hget (2+j) (by omega),hvs,Nat.add_comm];rfl)
      (by rw [hsz];omega) u v hv
     rw [hsz] at this;exact this
  ·simp only [yG,yn,List.not_mem_nil,or_false] at hq2;rcases hq2 with rfl | e
   ·exact .inl (.inl rfl)
   ·exact .inl (.inr e.symm)
  ·rcases yG.1 hp with rfl | hp
   ·refine ⟨rfl,?_⟩;simp only [V.rep,yT];exact ⟨b,rfl,rfl⟩
   ·obtain rfl:p=(.vec 1 xs.length,hdr):=by simpa using hp
    exact ⟨rfl,hvec⟩
 refine calls_of_wp hf hb (Code.wp_mono ?_ ((h A b hdr w).run _ _ w hR));rintro e a' w' (⟨bs',s',hQ,hR'⟩ | ⟨_,hE⟩)
 case inr=>simp_all
 have hfin:∀ cs',s'.H[0]? = some (.box t (List.map V.d cs'))→(∃ t1 k1 xs',s'.H[1]? = some (.vec t1 k1 xs')∧xs'.length=xs.length)→(∀ c,(A c∨c=b∨hdr.ownBlock=some c)→Own A bs' c)∧∃ us',w'.heap[b]? = some (.cells us' t (0,0))∧D.reps (λc=>A c∨c=b∨hdr.ownBlock=some c) w' cs' us'.toList:=λcs' hH ⟨t1,k1,xs',hH1,hx1⟩=>by
  have hg:=(hR'.gh _ (uO)).2;simp only [V.rep,hH] at hg;obtain ⟨b1,hb1,e1⟩:=hg;obtain rfl:b=b1:=by simpa using e1
  have hg2:=(hR'.gh _ (yW _ uO)).2;simp only [V.rep,hH1] at hg2;obtain ⟨-,hg2⟩:=hg2;obtain ⟨-,-,hq1,-⟩:=hg2 hx1.symm;have hblk:=hR'.blk 0 _ hH;simp only [Blk.rep] at hblk;obtain ⟨b2,us',hb2,hh2,hr2⟩:=hblk;obtain rfl:b=b2:=by rw [hb1] at hb2;simpa using hb2
  have hin:∀ c,(A c∨c=b∨hdr.ownBlock=some c)→Own A bs' c:=λc hc=>by
   rcases hc with hc | rfl | hc
   ·exact .inl hc
   ·exact .inr (yz hb1)
   ·exact .inr (by rw [hc] at hq1;exact yz hq1)
  exact ⟨hin,us',hh2,D.zt8 (Fr.refl ze w') (λ_ x=>x.elim) (λc _ hc=>hin c hc) _ _ (V.zvA.1 hr2)⟩
 rcases hQ with ⟨i,T,ds,cs',ho,rfl,ht,hi,hsh,h0,h1⟩ | ⟨cs',ho,rfl,h0,h1⟩
 ·obtain ⟨hin,us',g1,g2⟩:=hfin cs' h0 h1;have hp:=(hR'.tmp tt _ ht).2;simp only [V.rep,hi] at hp;obtain ⟨bi,hbi,hp⟩:=hp;have hblk:=hR'.blk i _ hi;simp only [Blk.rep] at hblk;obtain ⟨bi2,vs',hbi2,hh2,hr2⟩:=hblk;obtain rfl:bi=bi2:=by rw [hbi] at hbi2;simpa using hbi2
  have hrep:D.rep (Own A bs') w' (.agg ds) (.agg vs'):=by simp only [D.rep];exact ⟨vs',rfl,V.zvA.1 hr2⟩
  have hl:=zco (P:=P) (A:=Own A bs') (d:=.agg ds) (b:=bi) (off:=0) hsh hrep rfl (λj hj=>by rw [uh,zV hh2];simp [Value.cells]);simp only [Instr.loadAt,Instr.sureAddr,Sem.run_bind,Sem.run_pure,Result.andThen_ok] at hl;have hone:(zeb a'.tmps (.cell tt ty)).run P w' = .ok (.agg vs') w':=by grind [zeb,Sem.run_bind,asAddr,Sem.run_pure,Result.andThen_ok]
  refine ⟨hR'.defers,.agg vs',?_,us',cs',hR'.fr,g1,g2,.inl ⟨_,_,ho,rfl,D.zuB (Fr.refl ze w') (λ_ x=>x.elim) (λc _ hc=>hin c hc) _ _ hrep⟩⟩;rw [zbU,hrs];simp_all
 ·obtain ⟨hin,us',g1,g2⟩:=hfin cs' h0 h1;exact ⟨hR'.defers,us',cs',hR'.fr,g1,g2,.inr ⟨ho,rfl⟩⟩
def zhZ (w w':World) (q:Option Nat):World:=match q with
 | none=>w
 | some q=>{ w with heap:=w.heap.setIfInBounds q ((w'.heap[q]?).getD default) }
theorem zqj (w w') (q):Fr (λc=>q=some c) w (zhZ w w' q):=by
 cases q with
 | none=>exact Fr.refl _ _
 | some q=>
  refine ⟨rfl,rfl,rfl,by simp [zhZ],λc b a=>?_,λ_=>ym _⟩
  grind [zhZ]
theorem zpT {w w'} {q} {W} (h:Fr (λc=>W c∨q=some c) w w'):Fr W (zhZ w w' q) w':=by
 cases q with
 | none=>exact h.mono λc _ a=>a.elim (λh=>h) λh=>by cases h
 | some q=>
  have d:(zhZ w w' (some q)).heap.size=w.heap.size:=by simp [zhZ]
  refine ⟨h.os,h.tape,h.output,by rw [d];exact h.size,λc a f=>?_,h.drawn⟩;rw [d] at a;simp only [zhZ];by_cases e:q=c
  ·subst e;have g :=yA a h.size;simp_all
  ·rw [Array.getElem?_setIfInBounds_ne e];exact h.block c a λb=>b.elim f λb=>e (by simp_all)
theorem TriL.turn2 {P} {C} {ops} {o:Oper} {rest} {Q:Exit→St→Prop} {T} {H} {f pv t cs vt vk xs zs r d bi vi ys} (hp:zvu P f pv t cs vt vk xs zs r) (hg:o.guard=none) (hd:o.dst=some d) (hdn:Nat.blt d C.n=true)
  (hc:zvk P o (ev T) f ys) (hz:ys = .loc bi 0::.vec vi xs.length::zs.map V.d) (hB:H[bi]? = some (.box t (cs.map V.d))) (hV:H[vi]? = some (.vec vt vk xs))
  (kk:∀ y cs',r=some (y,cs')→TriL P C ops rest Q ⟨(d,.d y)::T,(H.set bi (.box t (cs'.map V.d))).set vi .dead⟩)
  (kp:∀ cs':List D,r=none→Q (.panic [{ v:=pv,recovered:=false }]) ⟨T,(H.set bi (.box t (cs'.map V.d))).set vi .dead⟩):TriL P C ops (o::rest) Q ⟨T,H⟩:=by
 subst hz;refine ⟨λbs a w hR=>wpList_plain hg λK hK=>?_⟩;obtain ⟨vs,hrun,hvs⟩:=hc.run (Own C.A0 bs) w bs H a.eval (λx _ y hx=>hR.ev hx) (λ_=>rfl);obtain ⟨v0,vr0,hvs0,hv0,hdr,vr,rfl,hv1,hvr⟩:=hvs;simp only [V.rep,hB] at hv0;obtain ⟨b,hb,rfl⟩:=hv0;simp only [V.rep,hV] at hv1;obtain ⟨cells,hrow,hq,hflat⟩:=hv1.2 trivial;have hblk:=hR.blk bi _ hB;obtain ⟨b2,us,hb2,hh,hcs⟩:=hblk;obtain rfl:b=b2:=by rw [hb] at hb2;simpa using hb2
 have hbv:bi≠vi:=λe=>by simp_all
 have hqb:∀ c,hdr.ownBlock=some c→c≠b∧some c∈bs:=λc hc=>by
  rw [hc] at hq;refine ⟨λe=>?_,yz hq⟩;subst e;exact hbv (hR.own.apart _ _ _ hb hq)
 have hbm:some b∈bs:=yz hb;have hfun:(λc=>(Own C.A0 bs c∧c≠b∧hdr.ownBlock≠some c)∨c=b∨hdr.ownBlock=some c)=Own C.A0 bs:=funext λc=>propext ⟨λh=>by
   rcases h with h | rfl | h
   ·exact h.1
   ·exact .inr hbm
   ·exact .inr (hqb c h).2,λh=>by
   grind⟩
 have hcall:=hp.run (λc=>Own C.A0 bs c∧c≠b∧hdr.ownBlock≠some c) w b hdr vs us cells vr (λc hc=>hc.1.elim (hR.own.ztL c) (hR.own.lt c)) (by rw [hfun];exact hR.own.glob) (λh=>h.2.1 rfl) (hR.own.lt b hbm)
  (λc hc=>⟨λh=>h.2.2 hc,(hqb c hc).1,hR.own.lt c (hqb c hc).2⟩) hh (by rw [hfun];exact V.zvA.1 hcs) hrow (by rw [hfun];exact hflat) hvs0 (by rw [hfun];exact V.zvA.1 hvr)
 rw [hfun] at hcall;have hset:∀ (i:Nat) (x:Option Nat),bs[i]? = some x→bs.set i x=bs:=λi x hx=>by
  refine y8 λj=>?_
  by_cases hij:i=j
  ·subst hij;rw [yy (yc.1 hx).1,hx]
  ·rw [yx hij]
 unfold Oper.wp;rw [hrun];refine hcall.mono ?_;rintro e w' ⟨us',cs',hf,hh',hcs',hout⟩;have hR1:R C bs ⟨T,H.set vi .dead⟩ a (zhZ w w' hdr.ownBlock):=by
  have:=R.upd (y:=.dead) (c':=hdr.ownBlock) hR hV hq (by simp [Compat]) (zqj w w' _) (.inl rfl) (by simp only [Blk.rep])
  rwa [hset vi _ hq] at this
 have hB1:(H.set vi .dead)[bi]? = some (.box t (cs.map V.d)):=by grind
 have hf2:Fr (λc=>some b=some c) (zhZ w w' hdr.ownBlock) w':=(zpT (hf.mono λc _ hc=>hc)).mono λc _ hc=>by rw [hc]
 have hR2:R C bs ⟨T,(H.set bi (.box t (cs'.map V.d))).set vi .dead⟩ a w':=by
  have:=R.upd (y:=.box t (cs'.map V.d)) (c':=some b) hR1 hB1 hb (by simp [Compat]) hf2 (.inl rfl) (by
   simp only [Blk.rep];refine ⟨b,us',by rw [hset bi _ hb];exact hb,hh',?_⟩;rw [hset bi _ hb];exact V.zvA.2 hcs')
  grind [List.set_comm]
 rcases hout with ⟨y,u,ho,rfl,hu⟩ | ⟨ho,rfl⟩
 ·have hput:=hR2.put (Fr.refl _ _) (some d) (by grind [zt2]) (v:=.d y) (u:=u) (by grind [V.rep]);rw [← hd] at hput;refine hK _ _ ((kk y cs' ho).run bs _ _ ?_);rw [hd] at hput ⊢;exact hput
 ·exact .inl ⟨bs,_,kp cs' ho,hR2⟩
end
section
variable [ztC] [Drw]
theorem D.zw2 {A A' w w' k}:∀ {xs} {cs},(∀ x∈xs,x.scal=true)→D.flat A w k xs cs→D.flat A' w' k xs cs
 | [],_,_,h=>by grind [D.flat]
 | x::xs,cs,b,h=>by
  obtain ⟨u,a,e,c,f,d⟩:=h;exact ⟨u,a,e,c,D.zwj (b x (by simp)) f,D.zw2 (λy g=>b y (by grind)) d⟩
theorem TriL.zxE {P:Program} {C} {ops} {o:Oper} {rest:List Oper} {Q:Exit→St→Prop} {T} {H} {f args tys xs t k Y d} (hg:o.guard=none) (ho:o.op = .call { callee:=.value (.func f),args:=args,argTypes:=tys }) (hd:o.dst=some d) (hdn:Nat.blt d C.n=true) (hc:ztF P f=true) (ha:Lent (ev T) H args.toList xs) (hp:zwV P f xs t k Y)
  (hs:∀ l,Y l→∀ x∈l,x.scal=true) (kk:∀ l,Y l→TriL P C ops rest Q ⟨(d,.vec H.length l.length)::T,H++[.vec t k l]⟩):TriL P C ops (o::rest) Q ⟨T,H⟩:=by
 refine ⟨λbs a w hR=>wpList_plain hg λK hK=>?_⟩;have hk:∀ k,a.eval (.func k) = .func (.func k) #[] #[]:=λ_=>rfl
 have hrun:(execOp a.eval o).run P w = .ok (.enter f (args.map a.eval)) w:=by
  simp only [execOp,ho,resolve,hk,Deferred.ofValue,Sem.run_bind,Sem.run_pure,Result.andThen_ok,invoke];simpa using zaX hc (args.map a.eval) w
 have hreps:D.reps C.A0 w xs (args.map a.eval).toList:=by
  have:=ha.reps (w:=w) (f:=a.eval) hR.mem (λx _ y hy=>hR.ev hy);simpa using this
 have hlen:=hR.len;refine Oper.zuO (K:=λu w'=>∃ l cells,Y l∧Fr ze w w'∧w'.ownsRow w.heap.size t k u l.length cells∧D.flat (λb=>Own C.A0 bs b∨u.ownBlock=some b) w' k l cells) ?_ λu w' ⟨l,cells,hY,hf,hown,hfl⟩=>?_
 ·rw [hrun];refine (hp.run C.A0 w (args.map a.eval) hR.own.ztL (hR.own.glob.fr (Fr.refl ze w) (λ_ x=>x.elim) (λ_ _ h=>.inl h)) hreps).mono ?_
  grind [D.zw2]
 ·have hbl:∃ bs',R C bs' ⟨(d,.vec H.length l.length)::T,H++[.vec t k l]⟩ (a.put o.dst u) w':=by
   rcases hown.2 with ⟨hnil,h0⟩ | ⟨g,cap,cur,hu,hbase,hheap,hrest⟩
   ·have h1:R C (bs++[none]) ⟨T,H++[.vec t k l]⟩ a w':=by
     have:=hR.put hf none rfl (v:=.junk) (u:=undef) (by simp only [V.rep]);exact R.zwk (k:=.vec t k l) this λ_ _ _=>by grind [Blk.rep]
    refine ⟨bs++[none],?_⟩;have:=h1.put (Fr.refl _ _) (some d) (by grind [zt2]) (v:=.vec H.length l.length) (u:=u) (by
     simp only [V.rep];rw [yP (ym _)];simp only [uv,yT];refine ⟨ym _,λ_=>⟨cells,⟨hown.1,.inl ⟨hnil,h0⟩⟩,by grind [Value.ownBlock],D.ztU (Fr.refl ze w') (λ_ x=>x.elim) (λb _ hb=>.inl ?_) _ _ hfl⟩⟩;rcases hb with hb | hb
     ·exact .inl hb
     ·rcases yu.1 hb with hb | hb
      ·exact .inr hb
      simp_all)
    rw [hd];exact this
   ·have hgA:¬ C.A0 g:=λh=>absurd (hR.own.ztL g h) (by omega)
    have hgl:g<w'.heap.size:=(yk.1 hheap).1;have h1:R { C with A0:=λc=>C.A0 c∨c=g } bs ⟨T,H⟩ a w':=
     hR.zuu (A:=λc=>C.A0 c∨c=g) hf (λb hb hb'=>hb'.elim id (λe=>by omega)) (λb hb=>by
      rcases hb with hb | rfl
      ·exact yA (hR.own.ztL b hb) hf.size
      simp_all)
    have h2:=R.zwH (C:=C) t k l h1 hheap hgA (yH hR.fr.size hbase);refine ⟨bs++[some g],?_⟩;have:=h2.put (Fr.refl _ _) (some d) (by grind [zt2]) (v:=.vec H.length l.length) (u:=u) (by
     simp only [V.rep];rw [yP (ym _)];simp only [uv,yT];refine ⟨ym _,λ_=>⟨cells,⟨hown.1,.inr ⟨g,cap,cur,hu,yo _,hheap,hrest⟩⟩,by grind [Value.ownBlock],D.ztU (Fr.refl ze w') (λ_ x=>x.elim) (λb _ hb=>?_) _ _ hfl⟩⟩;rcases hb with hb | hb
     ·exact .inl (.inl hb)
     ·rcases yu.1 hb with hb | hb
      ·exact .inl (.inr hb)
      ·simp only [yM,yn] at hb;subst hb;exact .inr (by rw [hu];rfl))
    rw [hd];exact this
  obtain ⟨bs',hR'⟩:=hbl;exact hK _ _ ((kk l hY).run bs' _ _ hR')
theorem zpI {P} {f} {fn} {α} {t el} {k bytes} {enc} {xs zs:List α} (hf:P.funcs[f]? = some fn) (hbody:fn.body=some (zfV t)) (hN:fn.ntmps=8) (hrs:fn.results = #[.tmp 2])
  (ht:zbK P t el k bytes=true) (hb:Nat.blt 0 bytes=true) (hones:∀ z,(enc z).ones=true) (hk:∀ x,(enc x).kOK k=true) (hv:Go.Proofs.YtipkniadbkndfaaGreatDoor.app bytes [] xs=some zs):zwV P f [.sl k (xs.map enc)] el k (λl=>l=zs.map enc):=by
 have e:zs=xs:=by have:=(appS hv).1;simp_all
 have c:=(zby ht).1;refine zwV.zwr hf hbody hrs (by simp_all) λA w=>?_
 rw [hN];refine .seq (.region (.op rfl rfl (.assign rfl rfl) (.nil ?_)));refine .seq (.seq (.region (.op rfl rfl (.move rfl rfl) (.eqNil rfl rfl rfl c rfl λb a=>.nil ?_))));refine .cond (t:=b) rfl (λd=>?_) (λ_=>.skip ?_)
 ·have a:xs=[]:=by simp_all
  subst a;subst e;refine .seq (.region (.op rfl rfl (.assign rfl rfl) (.nil ?_)));exact .zvI 2 k el rfl (.ret ⟨rfl,0,[],rfl,rfl,rfl⟩)
 ·refine .seq (.region (.zwf (α:=α) (enc:=enc) [] rfl rfl rfl rfl rfl ht rfl hk (by simp_all) ?_));refine .op rfl rfl (.move rfl rfl) ?_;refine .app rfl rfl rfl rfl rfl rfl rfl rfl ht hb hones hv ?_;refine .op rfl rfl (.assign rfl rfl) (.nil ?_);exact .ret ⟨rfl,0,zs.map enc,by simp [look,St.put],rfl,rfl⟩
theorem TriL.cloneB {P} {C} {ops} {o:Oper} {rest} {Q} {T} {H} {f} {fn} {x} {tys} {α} {t el} {k bytes d i n el':Nat} {enc} {xs zs:List α}
  (hg:o.guard=none) (ho:o.op = .call { callee:=.value (.func f),args:=#[x],argTypes:=tys }) (hd:o.dst=some d) (hdn:Nat.blt d C.n=true) (hcl:ztF P f=true) (hf:P.funcs[f]? = some fn) (hbody:fn.body=some (zfV t)) (hN:fn.ntmps=8) (hrs:fn.results = #[.tmp 2])
  (hx:ev T x=some (.vec i n)) (hi:H[i]? = some (.vec el' k (xs.map enc))) (hn:n=xs.length) (ht:zbK P t el k bytes=true) (hb:Nat.blt 0 bytes=true) (hones:∀ z,(enc z).ones=true) (hk:∀ x,(enc x).kOK k=true) (hsc:∀ x,(enc x).scal=true) (hv:Go.Proofs.YtipkniadbkndfaaGreatDoor.app bytes [] xs=some zs)
  (kk:TriL P C ops rest Q ⟨(d,.vec H.length zs.length)::T,H++[.vec el k (zs.map enc)]⟩):TriL P C ops (o::rest) Q ⟨T,H⟩:=by
 refine .zxE hg ho hd hdn hcl (xs:=[.sl k (xs.map enc)]) (.cons hx (.vec hi (by simp_all)) .nil) (zpI hf hbody hN hrs ht hb hones hk hv) (λl a z b=>?_) λl a=>?_
 ·grind
 simp_all
theorem TriL.turn2S {P} {C} {ops} {o:Oper} {rest} {Q} {T} {H} {f pv t cs cs' vt vk xs zs y d bi vi ys} (hp:zvu P f pv t cs vt vk xs zs (some (y,cs'))) (hg:o.guard=none) (hd:o.dst=some d) (hdn:Nat.blt d C.n=true)
  (hc:zvk P o (ev T) f ys) (hz:ys = .loc bi 0::.vec vi xs.length::zs.map V.d) (hB:H[bi]? = some (.box t (cs.map V.d))) (hV:H[vi]? = some (.vec vt vk xs))
  (kk:TriL P C ops rest Q ⟨(d,.d y)::T,(H.set bi (.box t (cs'.map V.d))).set vi .dead⟩):TriL P C ops (o::rest) Q ⟨T,H⟩:=
 .turn2 hp hg hd hdn hc hz hB hV (λb a h=>by simp_all) (λ_ h=>by cases h)
theorem TriL.turn2P {P} {C} {ops} {o:Oper} {rest} {Q} {T} {H} {f pv t cs vt vk xs zs d bi vi ys} (hp:zvu P f pv t cs vt vk xs zs none) (hg:o.guard=none) (hd:o.dst=some d) (hdn:Nat.blt d C.n=true)
  (hc:zvk P o (ev T) f ys) (hz:ys = .loc bi 0::.vec vi xs.length::zs.map V.d) (hB:H[bi]? = some (.box t (cs.map V.d))) (hV:H[vi]? = some (.vec vt vk xs))
  (kp:∀ cs':List D,Q (.panic [{ v:=pv,recovered:=false }]) ⟨T,(H.set bi (.box t (cs'.map V.d))).set vi .dead⟩):TriL P C ops (o::rest) Q ⟨T,H⟩:=
 .turn2 hp hg hd hdn hc hz hB hV (λ_ _ h=>by cases h) (λa _=>kp a)
section
variable {P:Program} {o:Oper} {e:Operand→Option V} {H:List Blk}
theorem OpV.zye {t x u el k} {α:Type} {enc} {l:List α} (ho:o.op = .binOp .neq t x (.const (.slice none 0 0)) u) (htu:P.underlying t=some (.slice el)) (hx:e x=some (.d (.osl k (l.map enc)))):OpV P o e H (.d (.bool (!l.isEmpty))):=by
 refine ⟨λn q w f m i y _=>?_⟩;have j:=i x (by grind [Op.operands]) _ hx;obtain ⟨p,a,z,h,r,s⟩:=j;have v:p.isNone=l.isEmpty:=by
  grind
 have b:(execOp f o).run P w = .ok (.value (.bool (!l.isEmpty))) w:=by
  simp only [execOp];have c:(eqGuard BinOp.neq t x (Operand.const (Value.slice none 0 0)) (Value.slice p l.length a) (Value.slice none 0 0)).run P w = .ok () w:=by simp [eqGuard]
  have g:(binOp .neq t (.slice p l.length a) (.slice none 0 0)).run P w = .ok (.bool (!p.isNone)) w:=by
   simp only [binOp];simp [Op.equal,Op.maxDepth,Lib.run_equalIn_slice_nil w 9999 t el p l.length a 0 0 htu]
  simp_all
 rw [b];exact ⟨Fr.refl _ _,by grind [V.rep,D.rep]⟩
end
theorem ztg {α:Type} {k} {enc} {l:List α}:D.Le (.osl k (l.map enc)) (.sl k (l.map enc)):=.osl _ _
theorem TriL.toOsl {P C ops rest Q T H} {α:Type} {k} {enc} {l:List α} (t) (ht:look t T=some (.d (.sl k (l.map enc)))) (h:l.isEmpty=false) (kk:TriL P C ops rest Q ⟨(t,.d (.osl k (l.map enc)))::T,H⟩):TriL P C ops rest Q ⟨T,H⟩:=
 ⟨λ_ a w b=>kk.run _ a w (b.know (b.tmp t _ ht).1 (by
  have c:=(b.tmp t _ ht).2
  grind [V.rep,D.rep]))⟩
end
def pnk {α β:Type} (r:Option α) (k:α→Option (Option β)):Option (Option β):=match r with
 | none=>some none
 | some x=>k x
theorem pnkS {α β:Type} {r:Option α} {k:α→Option (Option β)} {o:Option β} (h:pnk r k=some o):(r=none∧o=none)∨∃ x,r=some x∧k x=some o:=by
 cases r with
 | none=>simp only [pnk,yn] at h;exact .inl ⟨rfl,h.symm⟩
 | some x=>exact .inr ⟨x,rfl,h⟩
def ppk {α β:Type} (r:Option α) (a:Option β) (k:α→Option β):Option β:=match r with
 | none=>a
 | some x=>k x
theorem ppkS {α β:Type} {r:Option α} {a:Option β} {k:α→Option β} {o:Option β} (h:ppk r a k=o):(r=none∧a=o)∨∃ x,r=some x∧k x=o:=by
 cases r with
 | none=>exact .inl ⟨rfl,h⟩
 | some x=>exact .inr ⟨x,rfl,h⟩
section
variable [ztC] [Drw]
theorem ze9.imp {P:Program} {K K':Value→World→Prop} (h:∀ u w,K u w→K' u w):∀ {r:Result Next},ze9 P K r→ze9 P K' r
 | .ok (.value _) _,a=>h _ _ a
 | .ok .skip _,a=>h _ _ a
 | .ok (.enter _ _) _,a=>Calls.mono a λ_ _ ⟨u,c,b⟩=>⟨u,c,h _ _ b⟩
theorem OpV.leD {P} {o} {e} {H} {d d'} (hle:D.Le d d') (h:OpV P o e H (.d d)):OpV P o e H (.d d'):=
 ⟨λb c w f g i j k=>ze9.imp (λu m ⟨l,a⟩=>⟨l,by exact hle.rep a⟩) (h.run b c w f g i j k)⟩
section
variable {P:Program} {o:Oper} {e:Operand→Option V} {H:List Blk}
theorem OpV.extractV {x i cs v} (ho:o.op = .extract x i) (hx:e x=some (.tup cs)) (hd:cs[i]? = some v):OpV P o e H v:=
 .of_same λk m w f _ d=>by
  have g:=d x (by grind [Op.operands]) _ hx;obtain ⟨c,j,h⟩:=g;obtain ⟨u,l,a⟩:=V.zuk h i v hd;refine ⟨u,?_,a⟩;have b:c[i]? = some u:=by simp_all
  simp [execOp,ho,j,Instr.extract,b]
end
theorem Tri.eqD {P C c Q T H} (t) {d d'} (ht:look t T=some (.d d)) (e:d=d') (k:Tri P C c Q ⟨(t,.d d')::T,H⟩):Tri P C c Q ⟨T,H⟩:=by
 subst e;exact ⟨λf a w b=>k.run f a w (b.know (b.tmp t _ ht).1 (b.tmp t _ ht).2)⟩
theorem TriL.zyo {P} {C} {ops} {o:Oper} {rest} {Q} {T} {H} {f pv t cs cs' vt vk xs zs y d bi vi ys nn} (hp:zvu P f pv t cs vt vk xs zs (some (y,cs'))) (hg:o.guard=none) (hd:o.dst=some d) (hdn:Nat.blt d C.n=true)
  (hc:zvk P o (ev T) f ys) (hz:ys = .loc bi 0::.vec vi nn::zs.map V.d) (hn:nn=xs.length) (hB:H[bi]? = some (.box t (cs.map V.d))) (hV:H[vi]? = some (.vec vt vk xs))
  (kk:TriL P C ops rest Q ⟨(d,.d y)::T,(H.set bi (.box t (cs'.map V.d))).set vi .dead⟩):TriL P C ops (o::rest) Q ⟨T,H⟩:=.turn2S hp hg hd hdn hc (hn▸hz) hB hV kk
theorem TriL.zyn {P} {C} {ops} {o:Oper} {rest} {Q} {T} {H} {f pv t cs vt vk xs zs d bi vi ys nn} (hp:zvu P f pv t cs vt vk xs zs none) (hg:o.guard=none) (hd:o.dst=some d) (hdn:Nat.blt d C.n=true)
  (hc:zvk P o (ev T) f ys) (hz:ys = .loc bi 0::.vec vi nn::zs.map V.d) (hn:nn=xs.length) (hB:H[bi]? = some (.box t (cs.map V.d))) (hV:H[vi]? = some (.vec vt vk xs))
  (kp:∀ cs':List D,Q (.panic [{ v:=pv,recovered:=false }]) ⟨T,(H.set bi (.box t (cs'.map V.d))).set vi .dead⟩):TriL P C ops (o::rest) Q ⟨T,H⟩:=.turn2P hp hg hd hdn hc (hn▸hz) hB hV kp
def ResC (P:Program) (s:St) (rs:List ResultVar) (v:V):Prop:=match rs with
 | [.cell tt ty]=>∃ i T cs,look tt s.T=some (.loc i 0)∧s.H[i]? = some (.box T cs)∧zae P ty=some (some cs.length)∧zyf cs=v
 | rs=>∃ vs,ResV s rs vs∧zdw vs=v
def retVC (P:Program) (rs:List ResultVar) (K:V→List Blk→Prop) (Kp:List PanicEntry→List Blk→Prop) (e:Exit) (s:St):Prop:=
 ((e = .ret∨e = .normal)∧∃ v,ResC P s rs v∧K v s.H)∨∃ ch,e = .panic ch∧Kp ch s.H
theorem zrd {P C bs s a w} {fn} {rs} {v} (hR:R C bs s a w) (hrs:fn.results=rs.toArray) (h:ResC P s rs v) :
  ∃ u,(results fn a.tmps).run P w = .ok u w∧V.rep (Own C.A0 bs) w bs s.H v u:=by
 unfold ResC at h;split at h
 ·rename_i p l;obtain ⟨i,T,F,A,o,c,rfl⟩:=h;have k:=(hR.tmp p _ A).2;simp only [V.rep,o] at k;obtain ⟨B,t,k⟩:=k;have d:=hR.blk i _ o;obtain ⟨y,g,m,H,b⟩:=d;have n:=V.ztS b;refine ⟨.agg g,?_,?_⟩
  ·unfold zae at c;cases e:P.underlying l with
   | none=>simp_all
   | some u=>
    simp only [e] at c;by_cases f:u.isRow=true
    ·cases z:P.info? l with
     | none=>simp_all
     | some inf=>
      have q:=run_loadAt_mid (P:=P) w B 0 l g.toList u (λj x G=>by
       grind [zV]) e f (by simp_all)
      simp only [Instr.loadAt,Instr.sureAddr] at q;have r:(zeb a.tmps (.cell p l)).run P w = .ok (.agg g) w:=by simp only [zeb,k,asAddr,q]
      rw [zbU,hrs];simp_all
    simp_all
  ·unfold zyf;split
   ·rename_i J E;rw [zjD E] at b;exact ⟨_,rfl,V.zvA.1 b⟩
   ·simp only [V.rep];simp_all
 ·obtain ⟨g,K,rfl⟩:=h;exact zl5 (P:=P) (fn:=fn) hR (by simp_all)
theorem TriL.zu1 {P C ops o rest Q T H f fn c xs N} {rs}
  (hg:o.guard=none) (hd:zt2 o.dst C.n=true) (hc:zvk P o (ev T) f xs) (hf:P.funcs[f]? = some fn) (hb:fn.body=some c) (hN:fn.ntmps=N) (hrs:fn.results=rs.toArray) (hn:Nat.ble xs.length N=true)
  (hu:(T.all λp=>p.2.under H.length)=true) (hgn:Nat.ble C.gn H.length=true)
  (h:∀ (own0) (w) (gh),Tri P ⟨C.A0,own0,w,N,λ_ _=>False,gh,H.length,[]⟩ c (retVC P rs (λv H'=>TriL P C ops rest Q ⟨putT T o.dst v,H'⟩) (λch H'=>Q (.panic ch) ⟨T,H'⟩)) ⟨zbE 0 xs,H⟩):TriL P C ops (o::rest) Q ⟨T,H⟩:=by
 subst hN;have hgn:=yq hgn;refine ⟨λs a w i=>wpList_plain hg λK hK=>?_⟩;obtain ⟨m,B,A⟩:=hc.run (Own C.A0 s) w s H a.eval (λx _ y hx=>i.ev hx) (λ_=>rfl);unfold Oper.wp;rw [B];have X:=V.zuL A;refine calls_of_wp hf hb ?_;have Z:=h (λb=>C.own0 b∨some b∈s) w (C.gh++vals a T T);have L:R ⟨C.A0,λb=>C.own0 b∨some b∈s,w,fn.ntmps,λ_ _=>False,C.gh++vals a T T,H.length,[]⟩ s ⟨zbE 0 xs,H⟩ { tmps:=m++Array.replicate (fn.ntmps - m.size) undef,defers:=[] } w:=by
  have M:(m++Array.replicate (fn.ntmps - m.size) undef).size=fn.ntmps:=by simp_all
  refine ⟨i.own,i.len,i.blk,λt v F=>?_,rfl,M,Fr.refl _ _,λb hb=>.inl (.inr hb),λp k=>?_⟩
  ·have:=zcL xs 0 m.toList (m++Array.replicate (fn.ntmps - m.size) undef) A
    (λj hj=>by
     have S:j<m.size:=by simp_all
     simp [Array.getElem?_append,S])
    (by simp_all) t v F
   grind
  ·rcases yu.1 k with k | k
   ·exact ⟨V.zuN hgn _ (i.gh p k).1,(i.gh p k).2⟩
   ·obtain ⟨t,r,h2⟩:=zdP k;exact ⟨zdk hu r,by rw [h2];exact (i.tmp t _ r).2⟩
 refine Code.wp_mono ?_ (Z.run s _ w L);rintro e a' w' (⟨n,s',hQ,g⟩ | ⟨_,hE⟩)
 case inr=>simp_all
 have E:R C n ⟨T,s'.H⟩ a w':=by
  refine ⟨g.own,g.len,g.blk,λt v F=>⟨(i.tmp t v F).1,(g.gh _ (List.mem_append_right _ (zdv F F))).2⟩,i.defers,i.size,?_,λb hb=>?_,λp k=>⟨(i.gh p k).1,(g.gh p (List.mem_append_left _ k)).2⟩⟩
  ·have z:=g.fr;refine ⟨z.os.trans i.fr.os,z.tape.trans i.fr.tape,z.output.trans i.fr.output,yH i.fr.size z.size,λq Y O=>?_,λd=>yH (i.fr.drawn d) (z.drawn d)⟩;refine (z.block q (yA Y i.fr.size) λe=>?_).trans (i.fr.block q Y O);rcases e with e | e
   ·simp_all
   ·rcases i.new q e with e | e
    ·simp_all
    grind
  ·rcases g.new b hb with (r | r) | r
   ·simp_all
   ·exact i.new b r
   ·exact .inr (yH i.fr.size r)
 rcases hQ with ⟨he,v,G,U⟩ | ⟨ch,rfl,U⟩
 ·obtain ⟨u,J,W⟩:=zrd g hrs G;have l :=by
   have:=E.put (Fr.refl _ _) o.dst hd W;rw [St.put_eq] at this;exact hK _ _ (U.run n _ _ this)
  rcases he with rfl | rfl
  ·exact ⟨g.defers,u,J,l⟩
  ·exact ⟨g.defers,u,J,l⟩
 ·exact ⟨g.defers,.inl ⟨n,_,U,E⟩⟩
end
def zeB (n:Nat) (cf:Fin (n+1)→Fin (n+1)→Int):Array (Fin (n+1)):=Go.Sort.pdq (λx y=>decide (cf x y<0)) (Array.ofFn (n:=n+1) id) 0 (n+1) (Go.Lib.bitLen (n+1)) true true
def zwt {α:Type} (cf:α→α→Int):List α→List α
 | []=>[]
 | x::xs=>(zeB xs.length λi j=>cf ((x::xs)[i.val]'(by simp)) ((x::xs)[j.val]'(by simp))).toList.map λi=>(x::xs)[i.val]'(by simp)
def swoB {α:Type} (cf:α→α→Int) (l:List α):Bool:=
 l.all λx=>!decide (cf x x<0)&&l.all λy=>l.all λz=>(!(decide (cf x y<0)&&decide (cf y z<0))||decide (cf x z<0))&&(decide (cf x y<0)||decide (cf y z<0)||!decide (cf x z<0))
def zxq {α:Type} (f:α→α→Option Int) (l:List α):Option (List α):=
 if (l.all λx=>l.all λy=>(f x y).isSome)&&swoB (λx y=>(f x y).getD 0) l&&decide (l.length<4611686018427387904) then some (zwt (λx y=>(f x y).getD 0) l) else none
section
open Go Go.RowKit Go.Sort Go.Shelf
theorem zqI {α β:Type} {cf:α→α→Int} {l:List α} (h:swoB cf l=true) (g:β→α) (hg:∀ b,g b∈l):SWO (ltOf λx y:β=>cf (g x) (g y)):=by
 unfold swoB at h;rw [yp] at h;have k:∀ x y z:β,¬ cf (g x) (g x)<0∧(cf (g x) (g y)<0→cf (g y) (g z)<0→cf (g x) (g z)<0)∧(¬ cf (g x) (g y)<0→¬ cf (g y) (g z)<0→¬ cf (g x) (g z)<0):=by
  intro x y z;have h1:=h _ (hg x);rw [yd,yp] at h1;have h2:=h1.2 _ (hg y);rw [yp] at h2;have h3:=h2 _ (hg z);have h0:=h1.1;simp only [yC,yL] at h0;simp only [yd,yI,yC,uB,yf,yL] at h3;exact ⟨h0,by omega,by omega⟩
 refine ⟨λx=>?_,λx y z h1 h2=>?_,λx y z h1 h2=>?_⟩
 ·have:=(k x x x).1;simpa only [ltOf,yL] using this
 ·simp only [ltOf,yf] at *;exact (k x y z).2.1 h1 h2
 ·simp only [ltOf,yL] at *;exact (k x y z).2.2 h1 h2
theorem zho {n} {cf:Fin (n+1)→Fin (n+1)→Int} (hO:SWO (ltOf cf)):(zeB n cf).size=n+1∧(zeB n cf).toList.Perm (List.ofFn (n:=n+1) id)∧(zeB n cf).toList.Pairwise λx y=>ltOf cf y x=false:=by
 obtain ⟨⟨h1,_,h2⟩,h3⟩:=pdq_sorts (ltOf cf) hO (Array.ofFn (n:=n+1) id) 0 (n+1) (Lib.bitLen (n+1)) true true (yo _) (by simp) (Or.inl rfl);have hs:(zeB n cf).size=n+1:=by
  change (pdq (ltOf cf) (Array.ofFn (n:=n+1) id) 0 (n+1) (Lib.bitLen (n+1)) true true).size=n+1;rw [h1];simp
 refine ⟨hs,?_,?_⟩
 ·have e:∀ (arr:Array (Fin (n+1))) (m:Nat),arr.size=m→arr.extract 0 m=arr:=by
   rintro arr m rfl;exact Array.extract_size
  have e1:=e (zeB n cf) (n+1) hs;have e2:=e (Array.ofFn (n:=n+1) id) (n+1) (by simp);change ((zeB n cf).extract 0 (n+1)).toList.Perm _ at h2;rw [e1,e2] at h2;simpa using h2
 ·rw [List.pairwise_iff_getElem];intro i j hi hj hij;have hi':i<(zeB n cf).size:=by simpa using hi
  have hj':j<(zeB n cf).size:=by simpa using hj
  have:=h3 i j (yo _) hij (by omega);change ltOf cf (zeB n cf)[j]! (zeB n cf)[i]! = false at this;rw [getElem!_pos (zeB n cf) j hj',getElem!_pos (zeB n cf) i hi'] at this;simpa using this
theorem zmF {α:Type}:∀ (l:List α) (n:Nat) (h:n=l.length),(List.ofFn (n:=n) id).map (λi=>l[i.val]'(by rw [← h];exact i.isLt))=l:=by
 intro l n h;subst h;apply List.ext_getElem
 ·simp
 ·intro i h1 h2;simp
theorem ziE {α:Type} {cf:α→α→Int} {l:List α} (h:swoB cf l=true):(zwt cf l).Perm l:=by
 cases l with
 | nil=>simp [zwt]
 | cons x xs=>
  have hO:SWO (ltOf λi j:Fin (xs.length+1)=>cf ((x::xs)[i.val]'(by simp)) ((x::xs)[j.val]'(by simp))):=zqI h (λi:Fin (xs.length+1)=>(x::xs)[i.val]'(by simp)) (λi=>yi _);have h2:=(zho hO).2.1.map λi=>(x::xs)[i.val]'(by simp)
  rw [zmF (x::xs) (xs.length+1) (by simp)] at h2;exact h2
theorem zna {α:Type} {cf:α→α→Int} {l:List α} (h:swoB cf l=true):(zwt cf l).Pairwise λx y=>¬ cf y x<0:=by
 cases l with
 | nil=>simp [zwt]
 | cons x xs=>
  have hO:SWO (ltOf λi j:Fin (xs.length+1)=>cf ((x::xs)[i.val]'(by simp)) ((x::xs)[j.val]'(by simp))):=zqI h (λi:Fin (xs.length+1)=>(x::xs)[i.val]'(by simp)) (λi=>yi _);have h2:=(zho hO).2.2;simp only [zwt,List.pairwise_map];refine h2.imp λ{a b} hab=>?_
  simpa [ltOf] using hab
theorem zlh {α:Type} {f:α→α→Option Int} {l r:List α} (h:zxq f l=some r):(∀ x∈l,∀ y∈l,(f x y).isSome=true)∧swoB (λx y=>(f x y).getD 0) l=true∧l.length<4611686018427387904∧r=zwt (λx y=>(f x y).getD 0) l:=by
 unfold zxq at h;split at h
 ·rename_i hc;simp only [yd,yf,yp] at hc;cases h;exact ⟨λx hx y hy=>hc.1.1 x hx y hy,hc.1.2,hc.2,rfl⟩
 ·cases h
theorem znb {α:Type} {f:α→α→Option Int} {l r:List α} (h:zxq f l=some r):r.length=l.length:=by
 obtain ⟨_,h1,_,rfl⟩:=zlh h;exact (ziE h1).length_eq
end
section
open Go Go.RowKit Go.Sort Go.Shelf
variable [ztC] [Drw]
theorem Fr.grow_eq {w w'} (h : @Fr DT ze w w'):∃ q os,w'=grow (w.drewN q) os:=by
 refine ⟨w'.drawn - w.drawn,w'.heap.extract w.heap.size w'.heap.size,?_⟩;obtain ⟨heap,tape,drawn,os,output⟩:=w;obtain ⟨heap',tape',drawn',os',output'⟩:=w';obtain ⟨h1,h2,h3,h4,h5,h6⟩:=h;simp only at h1 h2 h3 h4 h5 h6;have h6:=h6 trivial;subst h1 h2 h3;have e:heap'=heap++heap'.extract heap.size heap'.size:=by
  apply Array.ext_getElem?;intro i;by_cases hi:i<heap.size
  ·rw [Array.getElem?_append_left hi];exact h5 i hi (λx=>x)
  grind
 simp only [grow,World.drewN,World.mk.injEq]
 grind
theorem zpU {α} [Inhabited α] {enc} {w} {g n} {os} (d:Array α):Fr (λb=>some g=some b) w (sortWorld enc w g 0 n d os):=by
 refine ⟨rfl,rfl,rfl,by simp [sortWorld],λk c a=>?_,λ_=>Nat.le_add_right _ _⟩
 grind [sortWorld,heap_grow_old,putRow,mapBlock,Sort.ahead]
theorem znw {P A w} {k g blk:Nat} (hA:∀ b,A b→b<w.heap.size) (hG:zdh A w) (hb:A blk) {vals} {encs:Fin (k+1)→D} (hr:∀ i,(encs i).rep A w (vals i)) {cf}
  (hp:∀ i j,@Pure ‹ztC› DT P g [encs i,encs j] (.int (cf i j))):CmpLays1 P g #[] vals cf blk 0 (k+1) w:=by
 intro m f c _ x y;have a:Fr (λb=>some blk=some b) w (sortWorld vals w blk 0 m c f):=zpU c;have d:∀ b,some blk=some b→A b:=λb e=>by simp_all
 have h:=@Pure.run ‹ztC› DT _ _ _ _ (hp x y) A (sortWorld vals w blk 0 m c f) #[vals x,vals y] (λb hb=>yA (hA b hb) a.size) (hG.fr a d (λ_ _ h=>h)) (by
  exact ⟨_,_,rfl,D.zuB a d (λ_ _ h=>h) _ _ (hr x),_,_,rfl,D.zuB a d (λ_ _ h=>h) _ _ (hr y),rfl⟩)
 refine h.mono ?_;rintro e r ⟨u,rfl,n,l⟩;simp only [D.rep] at l;obtain ⟨q,o,p⟩:=n.grow_eq
 grind
theorem D.zwh {A w}:∀ {xs} {cs},(∀ x∈xs,x.shape=none)→(D.flat A w 1 xs cs↔D.reps A w xs cs)
 | [],cs,_=>by grind [D.flat,D.reps]
 | x::xs,cs,h=>by
  constructor
  ·rintro ⟨u,a,rfl,f,b,c⟩;have e:=D.ztV b (h x (by simp));refine ⟨u,a,by simp_all,b,(D.zwh λy d=>h y (by grind)).1 c⟩
  ·rintro ⟨u,a,rfl,b,c⟩;have e:=D.ztV b (h x (by simp));exact ⟨u,a,by simp_all,by simp_all,b,(D.zwh λy d=>h y (by grind)).2 c⟩
theorem D.zws {A w}:∀ {ds} {vs},vs.length=ds.length→(∀ (i:Nat) (d) (v),ds[i]? = some d→vs[i]? = some v→d.rep A w v)→D.reps A w ds vs
 | [],[],_,_=>by grind [D.reps]
 | d::ds,v::vs,a,h=>by
  exact ⟨v,vs,rfl,h 0 d v rfl rfl,D.zws (by simp_all) λi c b f e=>h (i+1) c b (by simp_all) (by simp_all)⟩
 | [],_::_,a,_=>by grind
 | _::_,[],a,_=>by grind
theorem zj2 {w g f cur e fr} (hb:w.heap[g]? = some (.cells cur e fr)):mapBlock w g f=w.setRow g (f cur):=by
 unfold mapBlock World.setRow;congr 1
 grind [onCells]
theorem TriL.sort1 {P C ops o rest Q T H} {ρ:Ren} (L:SlLaysF.n6 P ρ) {α:Type} {F} {tys:Array TypeId} {x y el} {i n g:Nat} {enc:α→D} {l r:List α} {cmp:α→α→Option Int}
  (hF:ρ.f 6=F) (hg:o.guard=none) (ho:o.op = .call { callee:=.value (.func F),args:=#[x,y],argTypes:=tys }) (hd:zt2 o.dst C.n=true) (hc:ztF P F=true) (hcg:ztF P g=true)
  (hx:ev T x=some (.vec i n)) (hy:ev T y=some (.d (.fn (.func g) [] []))) (hi:H[i]? = some (.vec el 1 (l.map enc))) (hn:n=l.length) (h1:∀ x,(enc x).shape=none) (h2:∀ x,(enc x).ones=true) (hs:zxq cmp l=some r)
  (hp:∀ a b v,cmp a b=some v→@Pure ‹ztC› DT P g [enc a,enc b] (.int v))
  (kk:TriL P C ops rest Q ((⟨T,H.set i (.vec el 1 (r.map enc))⟩:St).put o.dst .junk)):TriL P C ops (o::rest) Q ⟨T,H⟩:=by
 subst hF;obtain ⟨hsome,hswo,hlen,rfl⟩:=zlh hs;refine ⟨λbs a w hR=>wpList_plain hg λK hK=>?_⟩;have hxr:=hR.ev hx;have hyr:=hR.ev hy;simp only [V.rep,hi] at hxr;simp only [V.rep,D.rep,D.reps] at hyr;obtain ⟨vs,us,hyv,hv0,hu0⟩:=hyr;have hv0:vs = #[]:=by simpa using hv0
 have hu0:us = #[]:=by simpa using hu0
 subst hv0 hu0;obtain ⟨cells,hown,hbs,hflat⟩:=hxr.2 (by simpa using hn);have hrun:(execOp a.eval o).run P w = .ok (.enter (ρ.f 6) #[a.eval x,a.eval y]) w:=by
  have hk:∀ k,a.eval (.func k) = .func (.func k) #[] #[]:=λ_=>rfl
  simp only [execOp,ho,resolve,hk,Deferred.ofValue,Sem.run_bind,Sem.run_pure,Result.andThen_ok,invoke];simpa using zaX hc #[a.eval x,a.eval y] w
 have hR':∀ {w':World} {H':List Blk} {u:Value},R C bs ⟨T,H'⟩ a w'→R C bs ((⟨T,H'⟩:St).put o.dst .junk) (a.put o.dst u) w':=λh=>h.put (Fr.refl _ _) o.dst hd (v:=.junk) (by simp only [V.rep])
 refine Oper.zuO (K:=λu w'=>R C bs ⟨T,H.set i (.vec el 1 ((zwt (λx y=>(cmp x y).getD 0) l).map enc))⟩ a w') ?_ λu w' h=>hK _ _ (kk.run bs _ _ (hR' h))
 rw [hrun];simp only [ze9];have hshape:∀ (l:List α),∀ d∈l.map enc,d.shape=none:=λl d hd=>by
  obtain ⟨z,_,rfl⟩:=y9.1 hd;exact h1 z
 cases l with
 | nil=>
  have hset:H.set i (.vec el 1 ((zwt (λx y=>(cmp x y).getD 0) ([]:List α)).map enc))=H:=by
   refine y8 λj=>?_
   by_cases hij:i=j
   ·subst hij;rw [yy (yc.1 hi).1,hi];rfl
   ·rw [yx hij]
  rw [hset];have hn0:n=0:=by simpa using hn
  subst hn0;have hxv:∃ p cap,a.eval x = .slice p 0 cap:=by
   rcases hown.2 with ⟨h,_⟩ | ⟨g',cap,cur,h,_⟩
   ·exact ⟨_,_,h⟩
   ·exact ⟨_,_,h⟩
  obtain ⟨p,cap,hxv⟩:=hxv;rw [hxv];refine (AnyF.slices_SortFunc_none { L with } p cap (a.eval y) w).mono ?_;rintro e w' ⟨rfl,rfl⟩;exact ⟨_,rfl,hR⟩
 | cons z zs=>
  obtain ⟨k,hk⟩:∃ k,k=zs.length:=⟨_,rfl⟩
  have hnk:n=k+1:=by rw [hn,hk];rfl
  obtain ⟨gb,cap,cur,hxv,_,hheap,hncap,hcapm,hcurs,htake⟩:=hown.2.resolve_left (λh=>by omega);have hob:bs[i]? = some (some gb):=by rw [hbs,hxv];rfl
  have hcl:cells.length=k+1:=by rw [hown.1,hnk];simp
  obtain ⟨vals,hvals⟩:∃ vals:Fin (k+1)→Value,∀ j:Fin (k+1),cells[j.val]? = some (vals j):=
   ⟨λj=>cells[j.val]'(by have:=j.isLt;omega),λj=>yw _⟩
  have hll:(z::zs).length=k+1:=by rw [hk];rfl
  obtain ⟨el',hel⟩:∃ el':Fin (k+1)→α,∀ j:Fin (k+1),(z::zs)[j.val]? = some (el' j):=
   ⟨λj=>(z::zs)[j.val]'(by have:=j.isLt;omega),λj=>yw _⟩
  have hreps:=(D.zwh (hshape (z::zs))).1 hflat
  have hval:∀ j,(enc (el' j)).rep (Own C.A0 bs) w (vals j):=by
   intro j;obtain ⟨v,hv,hr⟩:=D.zuk hreps j.val (enc (el' j)) (by rw [y0,hel j];rfl);rw [hvals j] at hv;cases hv;exact hr
  have hmem:∀ j,el' j∈z::zs:=λj=>yz (hel j)
  have hO:SWO (ltOf λp q:Fin (k+1)=>(cmp (el' p) (el' q)).getD 0):=zqI hswo el' hmem;have hAlt:∀ b,Own C.A0 bs b→b<w.heap.size:=λb hb=>hb.elim (hR.own.ztL b) (hR.own.lt b)
  have hgb:Own C.A0 bs gb:=.inr (yz hob);have hcmp:CmpLays1 P g #[] vals (λp q:Fin (k+1)=>(cmp (el' p) (el' q)).getD 0) gb 0 (k+1) w:=znw hAlt hR.own.glob hgb hval λp q=>by
   obtain ⟨v,hv⟩:=Option.isSome_iff_exists.1 (hsome _ (hmem p) _ (hmem q));have:=hp _ _ _ hv;rw [hv];exact this
  have hone:OneCell vals:=λj=>D.zvx (λd hd=>by obtain ⟨q,_,rfl⟩:=y9.1 hd;exact h2 q) hflat _ (yz (hvals j))
  have eg:∀ args w,(callFunc g args).run P w = .ok (.enter g args) w:=λargs w=>zaX hcg args w
  have hH:Holds vals w gb 0 (Array.ofFn (n:=k+1) id):=by
   intro j hj;have hj':j<k+1:=by simpa using hj
   refine ⟨?_,by simp [World.frozen?,hheap]⟩;rw [getElem!_pos _ j hj,uh,zV hheap];have h2:(cur.toList.take (n*1))[j]? = cells[j]?:=by rw [htake]
   rw [List.getElem?_take_of_lt (by omega)] at h2;rw [← yZ,h2];have:=hvals ⟨j,hj'⟩;simpa using this
  have hcon:=Any.slices_SortFunc_eq L vals hone (λp q:Fin (k+1)=>(cmp (el' p) (el' q)).getD 0) hO g #[] gb 0 cap (Array.ofFn (n:=k+1) id) w eg (by simpa using hcmp) hH (yk.1 hheap).1 (by have:=hlen;rw [hll] at this;simpa using this);rw [hxv,hyv];have hsz:(Array.ofFn (n:=k+1) (id:Fin (k+1)→Fin (k+1))).size=k+1:=by simp
  rw [hsz] at hcon;rw [hnk];refine hcon.mono ?_;rintro e w' ⟨rfl,m,os,rfl⟩;refine ⟨_,rfl,?_⟩;change R C bs ⟨T,_⟩ a (sortWorld vals w gb 0 m (zeB k λp q:Fin (k+1)=>(cmp (el' p) (el' q)).getD 0) os);have hsp:=zho hO;obtain ⟨ix,hix⟩:∃ ix,ix=zeB k λp q:Fin (k+1)=>(cmp (el' p) (el' q)).getD 0:=⟨_,rfl⟩
  rw [← hix] at hsp ⊢;have hres:zwt (λx y=>(cmp x y).getD 0) (z::zs)=ix.toList.map el':=by
   have hel':∀ (j:Fin (zs.length+1)),el' (j.cast (by rw [hk]))=(z::zs)[j.val]'(by simp):=λj=>by
    have:=hel (j.cast (by rw [hk]));rw [yw (by simp)] at this;simpa using this.symm
   subst hk;have hel2:el'=λj=>(z::zs)[j.val]'(by simp):=funext λj=>hel' j
   rw [hix,hel2];rfl
  rw [hres];have hnew:(putCells vals 0 ix cur).toList.take ((k+1)*1)=ix.toList.map vals:=by
   apply y8;intro j;have hcs:k+1≤cur.size:=by rw [hcurs];omega
   by_cases hj:j<k+1
   ·rw [List.getElem?_take_of_lt (by omega),yZ];have hj2:j<ix.size:=by rw [hsp.1];exact hj
    simp [putCells,hj2,show j<cur.size by omega,getElem!_pos ix j hj2]
   ·rw [List.getElem?_take_eq_none (by omega),List.getElem?_eq_none (by simp [hsp.1];omega)]
  have hw1:sortWorld vals w gb 0 m ix os=grow (Sort.ahead (w.setRow gb (putCells vals 0 ix cur)) m) os:=by
   unfold sortWorld;rw [putRow_ahead];unfold putRow;rw [zj2 hheap]
  rw [hw1];have hR1:R C bs ⟨T,H.set i (.vec el 1 ((ix.toList.map el').map enc))⟩ a (w.setRow gb (putCells vals 0 ix cur)):=by
   refine R.zyp (cur:=cur) hR hi hob hheap (by simp [putCells]) (by simp [hsp.1,hk]) ?_ (by simp);have e1:((z::zs).map enc).length*1=(k+1)*1:=by simp [hk]
   rw [e1,hnew];refine (D.zwh (hshape _)).2 (D.zws (by simp) λj d v hd hv=>?_);simp only [y0,Option.map_eq_some_iff] at hd hv;obtain ⟨q,⟨p,hp1,rfl⟩,rfl⟩:=hd;obtain ⟨p',hp2,rfl⟩:=hv;rw [hp1] at hp2;cases hp2;exact hval p
  have hfr:Fr ze (w.setRow gb (putCells vals 0 ix cur)) (grow (Sort.ahead (w.setRow gb (putCells vals 0 ix cur)) m) os):=
   ⟨rfl,rfl,rfl,by simp_all,λb hb _=>by grind [heap_grow_old,Sort.ahead],λ_=>Nat.le_add_right _ _⟩
  exact hR1.put hfr none rfl (v:=.junk) (u:=Go.undef) (by grind [V.rep])
end
section
open Go Go.RowKit Go.Sort Go.Shelf
variable [ztC] [Drw]
theorem D.zwp {A w k}:∀ {xs:List D} {cs:List Value},cs.length=xs.length*k→(∀ (j:Nat) (hj:j<xs.length),∃ u,D.rep A w xs[j] u∧u.cells.size=k∧∀ q,q<k→cs[j*k+q]? = u.cells[q]?)→D.flat A w k xs cs
 | [],cs,hl,_=>by
  have:cs=[]:=yX (by simpa using hl);subst this;simp [D.flat]
 | x::xs,cs,hl,h=>by
  obtain ⟨u,h1,h2,h3⟩:=h 0 (by simp);simp only [D.flat];refine ⟨u,cs.drop k,?_,h2,by simpa using h1,D.zwp (by rw [ua,hl,yU,uw];omega) λj hj=>?_⟩
  ·have:cs.take k=u.cells.toList:=by
    apply y8;intro q;by_cases hq:q<k
    ·rw [List.getElem?_take_of_lt hq];have:=h3 q hq;simpa using this
    ·rw [List.getElem?_take_eq_none (by omega),List.getElem?_eq_none (by simp [h2];omega)]
   rw [← this,uz]
  ·obtain ⟨u,g1,g2,g3⟩:=h (j+1) (by simpa using hj);refine ⟨u,by simpa using g1,g2,λq hq=>?_⟩;rw [List.getElem?_drop,← g3 q hq];congr 1;rw [uw];omega
end
section
variable [ztC] [Drw]
theorem zmY {A w}:∀ {ds} {us} (i) {d} {u},D.reps A w ds us→D.rep A w d u→D.reps A w (ds.set i d) (us.set i u)
 | [],us,i,d,u,h,_=>by grind [D.reps]
 | x::ds,us,0,d,u,h,c=>by
  obtain ⟨v,a,rfl,e,b⟩:=h;simp only [List.set_cons_zero,D.reps]
  grind
 | x::ds,us,i+1,d,u,h,c=>by
  obtain ⟨v,a,rfl,e,b⟩:=h;exact ⟨v,a.set i u,rfl,e,zmY i b c⟩
theorem D.zx1 {A w k} {xs} {cs} {ds} {j off} {dy} {v} (h:D.flat A w k xs cs) (hj) (e:xs[j] = .agg ds) (ho:off<k) (hv:D.rep A w dy v) :
  D.flat A w k (xs.set j (.agg (ds.set off dy))) (cs.set (j*k+off) v):=by
 have i:=D.zuP h;have m:∀ {a b:Nat},a<b→a*k+k≤b*k:=λ{a b} g=>by rw [← uw];exact yN _ g
 refine D.zwp (by simp_all) λq l=>?_
 simp only [List.length_set] at l;obtain ⟨u,d,o,s⟩:=D.zwg h q l;by_cases c:j=q
 ·subst c;rw [e] at d;simp only [D.rep] at d;obtain ⟨r,rfl,t⟩:=d;refine ⟨.agg (r.toList.set off v).toArray,?_,?_,λp n=>?_⟩
  ·rw [List.getElem_set_self];exact ⟨_,rfl,by grind [zmY]⟩
  ·grind [Value.cells]
  grind [Value.cells]
 ·rw [List.getElem_set_ne c];refine ⟨u,d,o,λp n=>?_⟩;rw [← s p n];refine yx λx=>?_
  rcases Nat.lt_or_gt_of_ne c with f | f
  ·grind
  grind
theorem TriL.storeElF {P C ops o rest Q T H} {α:Type} {t el x y} {i n k off:Nat} {enc:α→D} {l r:List α} {x0 z:α} {a:Int} {ds:List D} {dy:D}
  (hg:o.guard=none) (ho:o.op = .store t x y) (hd:o.dst=none) (hx:ev T x=some (.el i n a.toNat off)) (hi:H[i]? = some (.vec el k (l.map enc))) (hn:n=l.length) (hy:ev T y=some (.d dy)) (hk:dy.shape=none) (h1:dy.ones=true)
  (hs:cellsOf P t=some 1) (h0:idx l a=some x0) (e0:enc x0 = .agg ds) (ez : .agg (ds.set off dy)=enc z) (hok:Nat.blt off k=true) (hv:sto l a z=some r)
  (kk:TriL P C ops rest Q ⟨T,H.set i (.vec el k (r.map enc))⟩):TriL P C ops (o::rest) Q ⟨T,H⟩:=by
 obtain ⟨j,rfl,hj,rfl⟩:=stoS hv;have hok:off<k:=by simpa using hok
 have hx0:l[j]=x0:=by
  have:=h0;simp [idx,hj] at this;exact this
 refine TriL.step hg (λbs a w hR=>?_) kk;have hp:=hR.ev hx;have hz:=hR.ev hy;simp only [V.rep] at hz;simp only [V.rep,hi] at hp;obtain ⟨hdr,cells,g1,g2,g3,b,g4,g5⟩:=hp.2 (by simpa using hn);simp only [yt] at g5;rcases g1.2 with ⟨h,h0⟩ | ⟨g,cap,cur,hh,_,hheap,hnc,hcm,hcs,htake⟩
 ·omega
 obtain rfl:g=b:=by rw [hh] at g4;simpa [Value.ownBlock] using g4
 have hone:∀ c∈(Act.eval a y).cells.toList,c.oneCell'=true:=D.zvz hz h1;have hyv:=D.ztV hz hk;generalize hv0:Act.eval a y=v at *;have hjk:j*k+k≤n*k:=by rw [← uw];exact yN _ (by omega)
 have hnk:n*k≤cap*k:=yN _ hnc;have hst:=run_storeCells_at P g (j*k+off) el [v] 0 cur w hheap (by simp [hcs];omega) (by rw [hyv] at hone;simpa using hone);simp only [uy,uL] at hst;unfold cellsOf at hs;cases hinf:P.info? t with
 | none=>simp [hinf] at hs
 | some inf=>
  simp only [hinf,yR,yn] at hs;have hrow:(cur.toList.take (j*k+off)++[v]++cur.toList.drop (j*k+off+1)).toArray=(cur.toList.set (j*k+off) v).toArray:=by
   rw [List.set_eq_take_append_cons_drop,if_pos (by simp [hcs];omega)];simp
  have hrun:(execOp a.eval o).run P w = .ok .skip (w.setRow g (cur.toList.set (j*k+off) v).toArray):=by
   rw [← hrow];simp only [execOp,ho,g5,Instr.storeAt,Instr.sureAddr,storeVar,sizeOf,typeInfo,program,Sem.run_bind,Sem.run,hinf,Sem.run_pure,Result.andThen_ok,hv0,hyv,hs,ne_eq,not_true_eq_false,if_false,uJ,uL];rw [hs] at *;simp [hst]
  have hfr:Fr (λc=>some g=some c) w (w.setRow g (cur.toList.set (j*k+off) v).toArray):=
   ⟨rfl,rfl,rfl,by simp,λc _ hno=>setRow_other w g c _ (λe=>hno (by rw [e])),λ_=>ym _⟩
  have hset:bs.set i (some g)=bs:=by
   refine y8 λq=>?_
   by_cases hij:i=q
   ·subst hij;rw [yy (yc.1 g2).1,g2,g4]
   ·rw [yx hij]
  have hWA:∀ c,some g=some c→Own C.A0 bs c:=λc hc=>.inr (by rw [← hc];rw [g4] at g2;exact yz g2)
  have hupd:=R.upd (y:=.vec el k ((l.set j z).map enc)) (c:=some g) (c':=some g) hR hi (by rw [g2,g4]) (by
   simp only [Compat];refine .inr ⟨by simp,trivial,trivial,λv2 cells' q1 q2 q3=>?_⟩;rcases q1.2 with ⟨h,h0⟩ | ⟨g',cap',cur',hh',_,hheap',hnc',hcm',hcs',htake'⟩
   ·simp only [yK] at h0;omega
   obtain rfl:g=g':=by rw [hh'] at q2;simpa [Value.ownBlock] using q2
   rw [hheap] at hheap';cases hheap';have hn':(l.map enc).length=n:=by simp [hn]
   rw [hn'] at htake' q1 hnc' ⊢;have hcells:cells'=cells:=by rw [← htake',← htake]
   subst hcells;have hfl:D.flat (Own C.A0 bs) w k ((l.map enc).set j (.agg (ds.set off dy))) (cells'.set (j*k+off) v):=D.zx1 q3 (by simpa using hj) (by simp [hx0,e0]) hok hz;rw [ez] at hfl;refine ⟨_,⟨?_,.inr ⟨g,cap',_,by rw [hh',hn'],yo _,setRow_heap w g cur _ el _ hheap,hnc',hcm',?_,?_⟩⟩,D.ztU hfr hWA (λc _ hc=>by rw [hset] at hc;exact hc) _ _ (by rw [List.map_set];exact hfl)⟩
   ·have:=q1.1;simpa using this
   ·simpa using hcs'
   ·rw [← htake];simp only [Nat.zero_mul,List.drop_zero];rw [List.take_set]) hfr (.inl rfl) (by simp only [Blk.rep])
  refine ⟨_,_,bs,hrun,.inr ⟨rfl,?_⟩⟩;rw [hset] at hupd;rw [hd];exact hupd
end
section
open Go Go.RowKit Go.Shelf Go.Lib
variable [ztC] [Drw]
theorem zq2 {P:Program} {ρ:Ren} (L:Lays8.n4 P ρ) {f:FuncId} {t el:TypeId} {k bytes:Nat} {n:Int} (hf:ρ.f 4=f) (hel:ρ.t 25=el) (ht:zbK P t el k bytes=true) (hb:Nat.blt 0 bytes=true) (h0:0≤n) (hn:n.toNat*bytes≤140737488355328) :
  zwV P f [.val (.slice none 0 0),.int n] el k (λl=>l=[]):=by
 subst hf;subst hel;obtain ⟨htu,hk0,inf,z,hinf,hz,hisz,hib,hzc⟩:=zby ht;have hb:0<bytes:=by simpa using hb
 obtain ⟨m,rfl⟩:=y7 h0;simp only [yt] at hn;have hm:m≤140737488355328:=yH (Nat.le_mul_of_pos_right m hb) hn;refine ⟨λA w vs hA hG hvs=>?_⟩;have hvs':vs = #[.slice none 0 0,.int .i64 m]:=by
  simp only [D.reps,D.rep] at hvs;obtain ⟨v1,vs1,e1,rfl,v2,vs2,rfl,rfl,rfl⟩:=hvs;exact Array.toList_inj.1 (by simpa using e1)
 subst hvs';by_cases hm0:m=0
 ·subst hm0;refine Calls.mono (Any8.slices_Grow_room L none 0 0 0 w (by omega) (by omega) (by omega) (by omega)) λe w' h=>?_
  obtain ⟨rfl,rfl⟩:=h;exact ⟨_,[],[],rfl,rfl,Fr.refl _ _,⟨by simp,.inl ⟨rfl,rfl⟩⟩,by simp only [D.flat]⟩
 ·refine Calls.mono (Any8.slices_Grow_grow L inf z hinf hz (by omega) none 0 0 m [] w (by omega) (by omega) (by rw [uh,hib];exact hn) (by omega) (by simp) (λ_=>rfl) (λ_ h=>by cases h)) λe w' h=>?_
  obtain ⟨rfl,rfl⟩:=h;have hge:=grownCap_ge w (0+m) 0 (ρ.t 25);simp only [uh] at hge;have hcm:=grownCap_le_maxLen w (0+m) 0 (ρ.t 25) (by simp only [maxLen];omega);refine ⟨_,[],[],rfl,rfl,⟨rfl,rfl,rfl,by simp,λb hb _=>by first | exact heap_alloc_old w.drew _ b hb | exact heap_alloc_old w.drew _ hb,λ_=>by simp⟩,⟨by simp,.inr ⟨w.heap.size,_,_,rfl,ym _,heap_alloc_new w.drew _,yo _,hcm,?_,by simp⟩⟩,by simp only [D.flat]⟩;simp only [Array.size_append,uJ,uj,size_zeroCells,hzc,uh,Nat.sub_zero,← Nat.add_mul];congr 1;omega
theorem TriL.growNil {P:Program} {C:Ctx} {ops:Array Oper} {o:Oper} {rest:List Oper} {Q:Exit→St→Prop} {T:List (Nat×V)} {H:List Blk} {α:Type} {enc:α→D} {f args tys n el k d} (hg:o.guard=none) (ho:o.op = .call { callee:=.value (.func f),args:=args,argTypes:=tys }) (hd:o.dst=some d) (hdn:Nat.blt d C.n=true) (hc:ztF P f=true)
  (ha:evs (ev T) args.toList=some [.val (.slice none 0 0),.int n]) (hp:zwV P f [.val (.slice none 0 0),.int n] el k (λl=>l=[]))
  (kk:TriL P C ops rest Q ⟨(d,.vec H.length ([]:List α).length)::T,H++[.vec el k (([]:List α).map enc)]⟩):TriL P C ops (o::rest) Q ⟨T,H⟩:=
 .zxU hg ho hd hdn hc ha hp λl hl=>by subst hl;exact kk
end
section
def Guard (P:Program) (g:FuncId) (tb te:TypeId) (pv:Value):Prop:=∀ (K:Bool→World→Prop) (f:FuncId) (caps:Array Value) (w:World),ztF P f=true →
 (Calls P f caps (w.alloc (.cells #[.bool false] tb)) λe w'=>w'.cell? ⟨w.heap.size,0,none⟩=some (.bool false)∧w'.frozen? ⟨w.heap.size,0,none⟩=false ∧
   ((∃ u,e = .returned u∧K true ((w'.setCell ⟨w.heap.size,0,none⟩ (.bool true)).setCell ⟨w.heap.size,0,none⟩ (.bool true)))∨(e = .panicked [{ v:=pv,recovered:=false }]∧K false (w'.alloc (.cells #[] te))))) →
 Calls P g #[.func (.func f) #[] caps] w λe w'=>∃ b,e = .returned (.bool b)∧K b w'
variable [ztC] [Drw]
theorem TriL.guardC {P C ops o rest Q T H f fn c xs N g tb te pv x tys} (hG:Guard P g tb te pv)
  (hg:o.guard=none) (hd:zt2 o.dst C.n=true) (ho:o.op = .call { callee:=.value (.func g),args:=#[x],argTypes:=tys }) (hx:ev T x=some (.fn (.func f) [] xs)) (hcg:ztF P g=true) (hcf:ztF P f=true)
  (hf:P.funcs[f]? = some fn) (hb:fn.body=some c) (hN:fn.ntmps=N) (hrs:fn.results = #[]) (hn:Nat.ble xs.length N=true)
  (hu:(T.all λp=>p.2.under H.length)=true) (hgn:Nat.ble C.gn H.length=true)
  (h:∀ (A0 own0:Nat→Prop) (w:World) (gh),Tri P ⟨A0,own0,w,N,λ_ _=>False,gh,H.length,[]⟩ c (λe s=>((e = .ret∨e = .normal)∧TriL P C ops rest Q ⟨putT T o.dst (.d (.bool true)),s.H++[.dead]⟩)∨(e = .panic [{ v:=pv,recovered:=false }]∧TriL P C ops rest Q ⟨putT T o.dst (.d (.bool false)),s.H++[.dead]⟩)) ⟨zbE 0 xs,H⟩):TriL P C ops (o::rest) Q ⟨T,H⟩:=by
 subst hN;have hgn:=yq hgn;have hn:=yq hn;refine ⟨λbs a w hR=>wpList_plain hg λK hK=>?_⟩;have h1:=hR.ev hx;obtain ⟨fs,caps,hfv,hfs,hvs⟩:=h1;have hfs:fs = #[]:=by
  simp only [V.reps] at hfs;exact Array.toList_inj.1 (by simpa using hfs)
 subst hfs;have hlen:=V.zuL hvs;simp only [yF] at hlen;have hrun:(execOp a.eval o).run P w = .ok (.enter g #[.func (.func f) #[] caps]) w:=by
  have hk:∀ k,a.eval (.func k) = .func (.func k) #[] #[]:=λ_=>rfl
  simp only [execOp,ho,resolve,hk,Deferred.ofValue,Sem.run_bind,Sem.run_pure,Result.andThen_ok,invoke];simpa [hfv] using zaX hcg (#[x].map a.eval) w
 unfold Oper.wp;rw [hrun];have hsz0:w.heap.size<(w.alloc (.cells #[.bool false] tb)).heap.size:=by simp
 have hfr1:Fr ze w (w.alloc (.cells #[.bool false] tb)):=⟨rfl,rfl,rfl,by simp,λb hb _=>Below.heap_alloc w _ b hb,λ_=>ym _⟩
 have hR1:=hR.zuu (A:=λb=>C.A0 b∨b=w.heap.size) hfr1 (λb hb hA=>hA.elim id λe=>by omega) (λb hA=>hA.elim (λhA=>Nat.lt_trans (hR.own.ztL b hA) hsz0) λe=>by omega);refine Calls.mono (hG (λb w'=>∃ bs' H',TriL P C ops rest Q ⟨putT T o.dst (.d (.bool b)),H'⟩∧R C bs' ⟨T,H'⟩ a w') f caps w hcf ?_) ?_
 case refine_2=>
  rintro e w' ⟨b,rfl,bs',H',hk,hR'⟩;have:=hR'.put (Fr.refl _ _) o.dst hd (v:=.d (.bool b)) (u:=.bool b) (by simp only [V.rep,D.rep]);rw [St.put_eq] at this;exact hK _ _ (hk.run bs' _ _ this)
 refine calls_of_wp hf hb ?_;have h0:=h (λb=>C.A0 b∨b=w.heap.size) (λb=>some b∈bs) (w.alloc (.cells #[.bool false] tb)) (C.gh++vals a T T);have hvs1:V.reps (Own (λb=>C.A0 b∨b=w.heap.size) bs) (w.alloc (.cells #[.bool false] tb)) bs H xs caps.toList:=by
  have:=hR1.ev hx;simp only [V.rep] at this;obtain ⟨fs',caps',e1,-,h2⟩:=this;rw [hfv] at e1;cases e1;exact h2
 have hR0:R ⟨λb=>C.A0 b∨b=w.heap.size,λb=>some b∈bs,w.alloc (.cells #[.bool false] tb),fn.ntmps,λ_ _=>False,C.gh++vals a T T,H.length,[]⟩ bs ⟨zbE 0 xs,H⟩ { tmps:=caps++Array.replicate (fn.ntmps - caps.size) undef,defers:=[] } (w.alloc (.cells #[.bool false] tb)):=by
  have hsz:(caps++Array.replicate (fn.ntmps - caps.size) undef).size=fn.ntmps:=by simp;omega
  refine ⟨hR1.own,hR1.len,hR1.blk,λt v hv=>?_,rfl,hsz,Fr.refl _ _,λb hb=>.inl hb,λp hp=>?_⟩
  ·have:=zcL xs 0 caps.toList (caps++Array.replicate (fn.ntmps - caps.size) undef) hvs1
    (λj hj=>by
     have hj':j<caps.size:=by simp_all
     simp [y6,Array.getElem?_append,hj',List.getD])
    (by rw [hsz];simp;omega) t v hv
   rw [hsz] at this;exact this
  ·rcases yu.1 hp with hp | hp
   ·exact ⟨V.zuN hgn _ (hR1.gh p hp).1,(hR1.gh p hp).2⟩
   ·obtain ⟨t,h1,h2⟩:=zdP hp;exact ⟨zdk hu h1,by rw [h2];exact (hR1.tmp t _ h1).2⟩
 refine Code.wp_mono ?_ (h0.run bs _ _ hR0);rintro e a' w' (⟨bs',s',hQ,hR'⟩ | ⟨_,hE⟩)
 case inr=>exact hE.elim
 have f1:=hR'.fr;have hnot:some w.heap.size∉bs:=λhc=>by
  have:=hR.own.lt _ hc;omega
 have hblk:w'.heap[w.heap.size]? = some (.cells #[.bool false] tb (0,0)):=by
  rw [f1.block w.heap.size hsz0 hnot];exact heap_alloc_new w _
 have hcell:w'.cell? ⟨w.heap.size,0,none⟩=some (.bool false):=by rw [zV hblk];rfl
 have hfroz:w'.frozen? ⟨w.heap.size,0,none⟩=false:=by
  simp [World.frozen?,hblk]
 have hRC:R { C with A0:=λb=>C.A0 b∨b=w.heap.size } bs' ⟨T,s'.H⟩ a w':=by
  refine ⟨hR'.own,hR'.len,hR'.blk,λt v hv=>⟨(hR.tmp t v hv).1,(hR'.gh _ (List.mem_append_right _ (zdv hv hv))).2⟩,hR.defers,hR.size,?_,λb hb=>?_,λp hp=>⟨(hR.gh p hp).1,(hR'.gh p (List.mem_append_left _ hp)).2⟩⟩
  ·refine ⟨f1.os.trans hR.fr.os,f1.tape.trans hR.fr.tape,f1.output.trans hR.fr.output,yH hR.fr.size (yH hfr1.size f1.size),λq hq hno=>?_,λd=>yH (hR.fr.drawn d) (f1.drawn d)⟩;have hq:q<C.w0.heap.size:=hq;have hqw:q<w.heap.size:=yA hq hR.fr.size;refine ((f1.block q (Nat.lt_trans hqw hsz0) λe=>?_).trans (hfr1.block q hqw λx=>x.elim)).trans (hR.fr.block q hq hno);rcases hR.new q e with e | e
   ·simp_all
   grind
  ·rcases hR'.new b hb with h1 | h1
   ·exact hR.new b h1
   ·exact .inr (yH hR.fr.size (yH hfr1.size h1))
 have hlo:C.w0.heap.size≤w.heap.size:=hR.fr.size;have hnA:¬ C.A0 w.heap.size:=λhc=>absurd (hR.own.ztL _ hc) (Nat.lt_irrefl _)
 have hin:∀ w3,R { C with A0:=λb=>C.A0 b∨b=w.heap.size } bs' ⟨T,s'.H⟩ a w3→∀ b,TriL P C ops rest Q ⟨putT T o.dst (.d (.bool b)),s'.H++[.dead]⟩→∃ bs'' H',TriL P C ops rest Q ⟨putT T o.dst (.d (.bool b)),H'⟩∧R C bs'' ⟨T,H'⟩ a w3:=λw3 h3 b hk=>by
  have hlt3:w.heap.size<w3.heap.size:=h3.own.ztL _ (.inr rfl);obtain ⟨ob,hob⟩:∃ ob,w3.heap[w.heap.size]? = some ob:=⟨_,uk hlt3⟩
  exact ⟨_,_,hk,R.adoptK (C:=C) (A:=C.A0) .dead h3 hob hnA hlo (by grind [Blk.rep])⟩
 rcases hQ with ⟨he,hk⟩ | ⟨rfl,hk⟩
 ·have hfr2:Fr (λq=>some w.heap.size=some q) w' ((w'.setCell ⟨w.heap.size,0,none⟩ (.bool true)).setCell ⟨w.heap.size,0,none⟩ (.bool true)):=by
   refine ⟨rfl,rfl,rfl,by simp,λq _ hno=>?_,λ_=>ym _⟩
   grind [Below.heap_setCell]
  have h3:=hin _ (hRC.ztL hfr2 (.inr rfl) hlo) true hk;rcases he with rfl | rfl
  ·exact ⟨hR'.defers,.tuple #[],by rw [zbU,hrs];simp,hcell,hfroz,.inl ⟨_,rfl,h3⟩⟩
  ·exact ⟨hR'.defers,.tuple #[],by rw [zbU,hrs];simp,hcell,hfroz,.inl ⟨_,rfl,h3⟩⟩
 ·have hfr2:Fr ze w' (w'.alloc (.cells #[] te)):=⟨rfl,rfl,rfl,by simp,λb hb _=>Below.heap_alloc w' _ b hb,λ_=>ym _⟩
  have h2:=hRC.put hfr2 none rfl (v:=.junk) (u:=undef) (by grind [V.rep]);have h3:=hin _ h2 false hk;exact ⟨hR'.defers,hcell,hfroz,.inr ⟨rfl,h3⟩⟩
end
section
variable [ztC] [Drw]
def zx7 (ops:Array Oper):Nat→Nat→Array Bool→Bool
 | 0,_,listed=>decide (Region.ready .any ops listed=[])
 | f+1,i,listed=>decide (Region.ready .any ops listed=[i])&&zx7 ops f (i+1) (listed.setIfInBounds i true)
theorem zku {P:Program} {ops:Array Oper} {Q:Exit→Act→World→Prop}:∀ (f i:Nat) (listed:Array Bool) (a:Act) (w:World),zx7 ops f i listed=true→(ops.toList.drop i).length=f→wpList P ops Q (ops.toList.drop i) a w→wpAny P .any ops Q f listed a w
 | 0,i,listed,a,w,hl,hd,h=>by
  have h0:ops.toList.drop i=[]:=yX hd;rw [h0] at h;simp only [zx7,yf] at hl;exact ⟨hl,h⟩
 | f+1,i,listed,a,w,hl,hd,h=>by
  simp only [zx7,yd,yf] at hl;have hi:i<ops.toList.length:=by simp at hd ⊢;omega
  have hc:ops.toList.drop i=ops.toList[i]::ops.toList.drop (i+1):=List.drop_eq_getElem_cons hi;have hd2:(ops.toList.drop (i+1)).length=f:=by simp at hd ⊢;omega
  have hoi:ops[i]? = some ops.toList[i]:=by simp at hi;simp [hi]
  rw [hc] at h;refine ⟨λh0=>(by rw [hl.1] at h0;cases h0),λj hj=>?_⟩;rw [hl.1] at hj;obtain rfl:j=i:=by simpa using hj
  unfold wpOp;simp only [hoi];unfold wpList at h;split
  ·rename_i hw;rw [if_pos hw] at h;exact h.imp (Oper.wp_mono λa w h=>zku f _ _ a w hl.2 hd2 h) id
  ·rename_i hw;rw [if_neg hw] at h;exact zku f _ _ _ w hl.2 hd2 h
theorem TriA.lin {P C ops fuel listed Q s} (i:Nat) (hl:zx7 ops fuel i listed=true) (hd:(ops.toList.drop i).length=fuel) (h:TriL P C ops (ops.toList.drop i) Q s):TriA P C ops fuel listed Q s:=
 ⟨λbs a w hR=>zku fuel i listed a w hl hd (h.run bs a w hR)⟩
theorem Tri.drawB {P C Q s id l} (n) (hm:P.follows .mixedOrders=true) (hn:l.size=n) (h:TriA P C l n (Array.replicate n false) Q s):Tri P C (.region id l true) Q s:=by
 subst hn;exact ⟨λbs a w hR=>wp_region_any hm (h.run bs a _ hR.drew)⟩
end
end Go.Proofs.YtipkniadbkndfaaGreatDoor
