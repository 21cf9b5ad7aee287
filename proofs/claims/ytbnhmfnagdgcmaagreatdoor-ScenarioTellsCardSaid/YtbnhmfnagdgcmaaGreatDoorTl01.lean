/- Part of the proof of one law of the seat. -/
import Derived.Below
import Derived.WalkKit
import Derived.Laws.AppendOwn
import Derived.LoopN
import Derived.Deep.MidRow
import Derived.StillTail
import Derived.Laws.AppendOwnNone
import Derived.Laws.MakeOwn
import Derived.Laws.Slices
import Derived.Laws.Strings
import Derived.Laws.Small
set_option linter.unusedVariables false
set_option linter.unusedSectionVars false
set_option linter.unusedSimpArgs false
set_option maxHeartbeats 4000000
namespace Go.Proofs.YtbnhmfnagdgcmaaGreatDoor
open Go Go.RowKit
abbrev ya:=@_root_.Option.bind_some
abbrev yb:=@_root_.List.getElem?_eq_some_iff
abbrev yc:=@_root_.Bool.and_eq_true
abbrev yd:=@_root_.decide_eq_true_eq
abbrev ye:=@_root_.Bool.false_eq_true
abbrev yf:=@_root_.Option.getD_some
abbrev yg:=@_root_.List.getElem?_append_left
abbrev yh:=@_root_.Option.some.injEq
abbrev yi:=@_root_.Nat.le_of_ble_eq_true
abbrev ym:=@_root_.Array.getElem?_eq_some_iff
abbrev yn:=@_root_.Nat.le_refl
abbrev yo:=@_root_.List.all_eq_true
abbrev yp:=@_root_.Nat.zero_le
abbrev yq:=@_root_.Int.toNat_natCast
abbrev yt:=@_root_.List.getElem?_set_self
abbrev yu:=@_root_.List.mem_of_getElem?
abbrev yv:=@_root_.List.getElem?_set_ne
abbrev yw:=@_root_.Bool.not_eq_true'
abbrev yx:=@_root_.Prod.mk.injEq
abbrev yz:=@_root_.Bool.or_eq_true
abbrev yA:=@_root_.List.getElem?_eq_getElem
abbrev yB:=@_root_.List.append_assoc
abbrev yC:=@_root_.Array.length_toList
abbrev yD:=@_root_.List.getElem?_append_right
abbrev yE:=@_root_.Bool.true_and
abbrev yG:=@_root_.List.length_append
abbrev yI:=@_root_.List.mem_cons
abbrev yJ:=@_root_.List.length_cons
abbrev yK:=@_root_.List.mem_append
abbrev yL:=@_root_.Nat.lt_of_lt_of_le
abbrev yM:=@_root_.List.map_cons
abbrev yO:=@_root_.List.mem_singleton
abbrev yP:=@_root_.Array.getD_eq_getD_getElem?
abbrev yQ:=@_root_.Int.eq_ofNat_of_zero_le
abbrev yR:=@_root_.List.length_take
abbrev yS:=@_root_.List.length_map
abbrev yT:=@_root_.Option.map_some
abbrev yU:=@_root_.List.mem_map
abbrev yV:=@_root_.List.nil_append
abbrev yW:=@_root_.List.eq_nil_of_length_eq_zero
abbrev yX:=@_root_.List.mem_range
abbrev yY:=@_root_.Array.getElem?_toList
abbrev yZ:=@_root_.Nat.mul_le_mul_right
abbrev y6:=@_root_.List.getElem?_cons_zero
abbrev y7:=@_root_.List.cons_append
abbrev y8:=@_root_.List.getElem?_map
abbrev ua:=@_root_.List.length_drop
abbrev ub:=@_root_.beq_eq_false_iff_ne
abbrev ue:=@_root_.Nat.le_trans
abbrev uf:=@_root_.Bool.not_true
abbrev ug:=@_root_.List.flatMap_cons
abbrev uh:=@_root_.Array.getElem?_eq_getElem
abbrev ui:=@_root_.List.ext_getElem?
abbrev uj:=@_root_.Nat.succ_mul
abbrev ul:=@_root_.List.map_append
abbrev um:=@_root_.List.all_cons
abbrev uq:=@_root_.Nat.zero_add
abbrev ut:=@_root_.Bool.false_or
abbrev uu:=@_root_.Nat.add_zero
abbrev uv:=@_root_.List.any_eq_true
abbrev uz:=@_root_.List.length_nil
abbrev uA:=@_root_.Nat.lt_or_ge
abbrev uB:=@_root_.List.take_append_drop
abbrev uC:=@_root_.List.filter_eq_nil_iff
abbrev uE:=@_root_.Nat.blt_eq
abbrev uF:=@_root_.List.size_toArray
abbrev uH:=@_root_.List.getElem?_take
abbrev uI:=@_root_.Nat.sub_self
abbrev uJ:=@_root_.List.range_succ
abbrev uL:=@_root_.List.map_map
abbrev uN:=@_root_.List.pairwise_cons
section
inductive D where
 | val (v:Value)
 | agg (cs:List D)
 | tup (cs:List D)
 | sl (k:Nat) (xs:List D)
 | ref (x:D)
 | fn (f:Fn) (first captured:List D)
 | mp (ks:List Value) (ds:List D)
 | err
structure wfM (bo:List Nat) (cl:Nat):Prop where
 nd:bo.Nodup
 lt:∀ x∈bo,x<cl
def zdW (w:World) (b off:Nat) (u:Value):Prop:=
 ∀ j,j<u.cells.size→w.cell? ⟨b,off+j,none⟩=u.cells[j]?
mutual
/-- Value v represents datum d in world w; no block that is met is one of A. -/
def D.rep (A:Nat→Prop) (w:World):D→Value→Prop
 | .val x,v=>v=x
 | .agg cs,v=>∃ vs:Array Value,v = .agg vs∧D.reps A w cs vs.toList
 | .tup cs,v=>∃ vs:Array Value,v = .tuple vs∧D.reps A w cs vs.toList
 | .sl k xs,v=>∃ a cap,v = .slice a xs.length cap∧xs.length≤cap∧(xs=[]∨∃ b off,a=some ⟨b,off,none⟩∧¬ A b∧b<w.heap.size∧D.row A w b k xs off)
 | .ref x,v=>∃ b off u,v = .pointer (some ⟨b,off,none⟩)∧¬ A b∧b<w.heap.size∧D.rep A w x u∧zdW w b off u
 | .fn f fs cs,v=>∃ vs us:Array Value,v = .func f vs us∧D.reps A w fs vs.toList∧D.reps A w cs us.toList
 | .mp ks ds,v=>∃ (b:Nat) (es:Array MapEntry) (clock:Nat),v = .map (some b)∧¬ A b∧b<w.heap.size∧w.heap[b]? = some (.map es clock)∧es.toList.map (·.key)=ks∧wfM (es.toList.map (·.born)) clock∧D.reps A w ds (es.toList.map (·.val))
 | .err,v=>∃ (t:TypeId) (u:Value),v = .iface t u
def D.reps (A:Nat→Prop) (w:World):List D→List Value→Prop
 | [],vs=>vs=[]
 | d::ds,vs=>∃ v vs',vs=v::vs'∧D.rep A w d v∧D.reps A w ds vs'
def D.row (A:Nat→Prop) (w:World) (b k:Nat):List D→Nat→Prop
 | [],_=>True
 | x::xs,off=>(∃ u,D.rep A w x u∧zdW w b off u∧u.cells.size=k)∧D.row A w b k xs (off+k)
end
class Drw where
 dr:Prop
abbrev DT:Drw:=⟨True⟩
variable [Drw]
structure Fr (W:Nat→Prop) (w w':World):Prop where
 os:w'.os=w.os
 tape:w'.tape=w.tape
 output:w'.output=w.output
 size:w.heap.size≤w'.heap.size
 block:∀ b,b<w.heap.size→¬ W b→w'.heap[b]? = w.heap[b]?
 drawn:Drw.dr→w.drawn≤w'.drawn
theorem Fr.refl (W w):Fr W w w:=⟨rfl,rfl,rfl,yn _,λ_ _ _=>rfl,λ_=>yn _⟩
theorem Fr.trans {W a b c} (h:Fr W a b) (k:Fr W b c):Fr W a c:=
  ⟨k.os.trans h.os,k.tape.trans h.tape,k.output.trans h.output,ue h.size k.size,
   λi hi hW=>(k.block i (yL hi h.size) hW).trans (h.block i hi hW),λd=>ue (h.drawn d) (k.drawn d)⟩
theorem Fr.mono {W W' a b} (h:Fr W a b) (hW:∀ i,i<a.heap.size→W i→W' i):Fr W' a b:=
 ⟨h.os,h.tape,h.output,h.size,λi hi hn=>h.block i hi (λhw=>hn (hW i hi hw)),h.drawn⟩
theorem Fr.cell {W w w'} (h:Fr W w w') {p} (hp:p.block<w.heap.size) (hn:¬ W p.block):w'.cell? p=w.cell? p:=
 World.cell?_of_block (w:=w) (h.block p.block hp hn)
theorem Fr.drew {W a w} (h:Fr W a w):Fr W a w.drew:=⟨h.os,h.tape,h.output,h.size,h.block,λd=>Nat.le_succ_of_le (h.drawn d)⟩
class Globs where
 gs:List (Nat×Obj)
def zd1 [Globs] (A:Nat→Prop) (w:World):Prop:=∀ p∈Globs.gs,¬ A p.1∧w.heap[p.1]? = some p.2
theorem zd1.lt [Globs] {A w} (h:zd1 A w) {p} (hp:p∈Globs.gs):p.1<w.heap.size:=(ym.1 (h p hp).2).1
theorem zd1.fr [Globs] {A A' W w w'} (h:zd1 A w) (hf:Fr W w w') (hW:∀ b,W b→A b) (hA:∀ b,b<w.heap.size→A' b→A b):zd1 A' w':=λp hp=>
 ⟨λha=>(h p hp).1 (hA _ (h.lt hp) ha),by rw [hf.block _ (h.lt hp) λhw=>(h p hp).1 (hW _ hw)];exact (h p hp).2⟩
theorem zdW.fr {W w w'} (h:Fr W w w') {b off u} (hb:b<w.heap.size) (hn:¬ W b) (hc:zdW w b off u):zdW w' b off u:=by
 intro j hj;rw [h.cell (p:=⟨b,off+j,none⟩) hb hn];exact hc j hj
mutual
theorem D.rep_fr {A A' W w w'} (h:Fr W w w') (hW:∀ b,W b→A b) (hA:∀ b,b<w.heap.size→A' b→A b) :
  ∀ (d:D) (v:Value),D.rep A w d v→D.rep A' w' d v
 | .val x,v,hv=>by simpa only [D.rep] using hv
 | .agg cs,v,hv=>by
  simp only [D.rep] at hv ⊢;obtain ⟨vs,e,hr⟩:=hv;exact ⟨vs,e,D.reps_fr h hW hA cs _ hr⟩
 | .tup cs,v,hv=>by
  simp only [D.rep] at hv ⊢;obtain ⟨vs,e,hr⟩:=hv;exact ⟨vs,e,D.reps_fr h hW hA cs _ hr⟩
 | .sl k xs,v,hv=>by
  simp only [D.rep] at hv ⊢;obtain ⟨a,cap,e,hcap,hr⟩:=hv;refine ⟨a,cap,e,hcap,?_⟩;rcases hr with hr | ⟨b,off,ea,hb,hs,hr⟩
  ·exact .inl hr
  ·exact .inr ⟨b,off,ea,λhb'=>hb (hA b hs hb'),yL hs h.size,D.row_fr h hW hA b k hb hs xs off hr⟩
 | .ref x,v,hv=>by
  simp only [D.rep] at hv ⊢;obtain ⟨b,off,u,e,hb,hs,hr,hc⟩:=hv;exact ⟨b,off,u,e,λhb'=>hb (hA b hs hb'),yL hs h.size,D.rep_fr h hW hA x u hr,hc.fr h hs (λhw=>hb (hW b hw))⟩
 | .fn f fs cs,v,hv=>by
  simp only [D.rep] at hv ⊢;obtain ⟨vs,us,e,h1,h2⟩:=hv;exact ⟨vs,us,e,D.reps_fr h hW hA fs _ h1,D.reps_fr h hW hA cs _ h2⟩
 | .mp ks ds,v,hv=>by
  simp only [D.rep] at hv ⊢;obtain ⟨b,es,clock,e,hb,hs,hh,h1,hwf,h2⟩:=hv;exact ⟨b,es,clock,e,λhb'=>hb (hA b hs hb'),yL hs h.size,by rw [h.block b hs (λhw=>hb (hW b hw)),hh],h1,hwf,D.reps_fr h hW hA ds _ h2⟩
 | .err,v,hv=>by simpa only [D.rep] using hv
theorem D.reps_fr {A A' W w w'} (h:Fr W w w') (hW:∀ b,W b→A b) (hA:∀ b,b<w.heap.size→A' b→A b) :
  ∀ (ds:List D) (vs:List Value),D.reps A w ds vs→D.reps A' w' ds vs
 | [],vs,hv=>by simpa only [D.reps] using hv
 | d::ds,vs,hv=>by
  simp only [D.reps] at hv ⊢;obtain ⟨v,vs',e,h1,h2⟩:=hv;exact ⟨v,vs',e,D.rep_fr h hW hA d v h1,D.reps_fr h hW hA ds vs' h2⟩
theorem D.row_fr {A A' W w w'} (h:Fr W w w') (hW:∀ b,W b→A b) (hA:∀ b,b<w.heap.size→A' b→A b) (b k) (hb:¬ A b) (hs:b<w.heap.size) :
  ∀ (xs:List D) (off:Nat),D.row A w b k xs off→D.row A' w' b k xs off
 | [],_,_=>by simp only [D.row]
 | x::xs,off,hv=>by
  simp only [D.row] at hv ⊢;obtain ⟨⟨u,h1,h2,h3⟩,h4⟩:=hv;exact ⟨⟨u,D.rep_fr h hW hA x u h1,h2.fr h hs (λhw=>hb (hW b hw)),h3⟩,D.row_fr h hW hA b k hb hs xs (off+k) h4⟩
end
theorem D.row_get {A w b k}:∀ {xs:List D} {off:Nat},D.row A w b k xs off→∀ (i:Nat) (hi:i<xs.length),
  ∃ u,D.rep A w xs[i] u∧zdW w b (off+i*k) u∧u.cells.size=k
 | [],_,_,i,hi=>absurd hi (by simp)
 | x::xs,off,hv,0,_=>by
  simp only [D.row] at hv;obtain ⟨h,_⟩:=hv;simpa using h
 | x::xs,off,hv,i+1,hi=>by
  simp only [D.row] at hv;obtain ⟨_,h⟩:=hv;obtain ⟨u,h1,h2,h3⟩:=D.row_get h i (by simpa using hi);refine ⟨u,by simpa using h1,?_,h3⟩;have e:off+(i+1)*k=off+k+i*k:=by rw [uj];omega
  rw [e];exact h2
theorem D.reps_len {A w}:∀ {ds:List D} {vs:List Value},D.reps A w ds vs→vs.length=ds.length
 | [],vs,h=>by simp only [D.reps] at h;simp [h]
 | d::ds,vs,h=>by
  simp only [D.reps] at h;obtain ⟨v,vs',rfl,_,h2⟩:=h;simp [D.reps_len h2]
theorem D.reps_get {A w}:∀ {ds:List D} {vs:List Value},D.reps A w ds vs→∀ (i:Nat) (d:D),ds[i]? = some d→∃ v,vs[i]? = some v∧d.rep A w v
 | [],vs,h,i,d,hd=>by simp at hd
 | x::ds,vs,h,0,d,hd=>by
  simp only [D.reps] at h;obtain ⟨v,vs',rfl,h1,_⟩:=h;simp at hd;subst hd;exact ⟨v,by simp,h1⟩
 | x::ds,vs,h,i+1,d,hd=>by
  simp only [D.reps] at h;obtain ⟨v,vs',rfl,_,h2⟩:=h;simpa using D.reps_get h2 i d (by simpa using hd)
theorem D.reps_drop {A w}:∀ (n:Nat) {ds:List D} {vs:List Value},D.reps A w ds vs→D.reps A w (ds.drop n) (vs.drop n)
 | 0,_,_,h=>by simpa using h
 | n+1,[],vs,h=>by simp only [D.reps] at h;subst h;simp [D.reps]
 | n+1,d::ds,vs,h=>by
  simp only [D.reps] at h;obtain ⟨v,vs',rfl,_,h2⟩:=h;simpa using D.reps_drop n h2
theorem D.reps_take {A w}:∀ (n:Nat) {ds:List D} {vs:List Value},D.reps A w ds vs→D.reps A w (ds.take n) (vs.take n)
 | 0,_,_,h=>by simp [D.reps]
 | n+1,[],vs,h=>by simp only [D.reps] at h;subst h;simp [D.reps]
 | n+1,d::ds,vs,h=>by
  simp only [D.reps] at h;obtain ⟨v,vs',rfl,h1,h2⟩:=h;simp only [List.take_succ_cons,D.reps];exact ⟨v,_,rfl,h1,D.reps_take n h2⟩
end
section
variable [Globs] [Drw]
inductive V where
 | d (x:D)
 | loc (i off:Nat)
 | vec (i n:Nat)
 | arr (i off n:Nat)
 | el (i n j off:Nat)
 | sub (i n lo hi:Nat)
 | agg (cs:List V)
 | tup (cs:List V)
 | fn (f:Fn) (first captured:List V)
 | mp (i:Nat)
 | itp (i:Nat)
 | que (i m:Nat)
 | qel (i m j:Nat)
 | junk
inductive Blk where
 | box (t:TypeId) (cs:List V)
 | vec (t:TypeId) (k:Nat) (xs:List D)
 | arr (t:TypeId) (k:Nat) (xs:List D)
 | mp (bo:List Nat) (ks:List Value) (ds:List D) (clock:Nat)
 | it (j since:Nat) (seen:List Nat) (last:Nat)
 | que (s:Nat) (t:TypeId) (k:Nat) (xs:List D)
 | itd (bo:List Nat) (ks:List Value) (ds:List D) (clock since:Nat) (seen:List Nat) (last:Nat)
 | dead
def D.flat (A:Nat→Prop) (w:World) (k:Nat):List D→List Value→Prop
 | [],cs=>cs=[]
 | x::xs,cs=>∃ u cs',cs=u.cells.toList++cs'∧u.cells.size=k∧D.rep A w x u∧D.flat A w k xs cs'
structure QueAt (A:Nat→Prop) (w:World) (b o cap k:Nat) (t:TypeId) (xs:List D):Prop where
 le:xs.length≤cap
 row:∃ cells:Array Value,w.heap[b]? = some (.cells cells t (0,0))∧o+cap*k≤cells.size∧∃ cs,D.flat A w k xs cs∧∀ (j:Nat) (v:Value),cs[j]? = some v→cells[o+j]? = some v
mutual
def V.rep (A:Nat→Prop) (w:World) (bs:List (Option Nat)) (H:List Blk):V→Value→Prop
 | .d x,v=>x.rep A w v
 | .loc i off,v=>match H[i]? with
  | some (.box _ _)=>∃ b,bs[i]? = some (some b)∧v = .pointer (some ⟨b,off,none⟩)
  | some .dead=>True
  | _=>False
 | .mp i,v=>match H[i]? with
  | some (.mp _ _ _ _)=>∃ b,bs[i]? = some (some b)∧v = .map (some b)
  | some .dead=>True
  | _=>False
 | .itp i,v=>match H[i]? with
  | some (.it _ _ _ _)=>∃ b,bs[i]? = some (some b)∧v = .pointer (some ⟨b,0,none⟩)
  | some (.itd _ _ _ _ _ _ _)=>∃ b,bs[i]? = some (some b)∧v = .pointer (some ⟨b,0,none⟩)
  | some .dead=>True
  | _=>False
 | .que i m,v=>match H[i]? with
  | some (.que s t k xs)=>m≤s∧(m=s→∃ b o cap,bs[i]? = some (some b)∧v = .slice (some ⟨b,o,none⟩) xs.length cap∧QueAt A w b o cap k t xs)
  | some .dead=>True
  | _=>False
 | .qel i m j,v=>match H[i]? with
  | some (.que s t k xs)=>m≤s∧(m=s→∃ b o cap,bs[i]? = some (some b)∧v = .pointer (some ⟨b,o+j*k,none⟩)∧j<xs.length∧QueAt A w b o cap k t xs)
  | some .dead=>True
  | _=>False
 | .vec i n,v=>match H[i]? with
  | some (.vec t k xs)=>n≤xs.length∧(n=xs.length→∃ cells,w.ownsRow 0 t k v n cells∧bs[i]? = some v.ownBlock∧D.flat A w k xs cells)
  | some .dead=>True
  | _=>False
 | .arr i off n,v=>match H[i]? with
  | some (.arr _ k xs)=>∃ b,bs[i]? = some (some b)∧off+n≤xs.length∧v = .slice (some ⟨b,off*k,none⟩) n (xs.length - off)
  | some .dead=>True
  | _=>False
 | .el i n j off,v=>match H[i]? with
  | some (.vec t k xs)=>n≤xs.length∧(n=xs.length→∃ hdr cells,w.ownsRow 0 t k hdr n cells∧bs[i]? = some hdr.ownBlock∧D.flat A w k xs cells∧∃ b,hdr.ownBlock=some b∧v = .pointer (some ⟨b,j*k+off,none⟩))
  | some .dead=>True
  | _=>False
 | .sub i n lo hi,v=>match H[i]? with
  | some (.vec t k xs)=>n≤xs.length∧(n=xs.length→∃ hdr cells,w.ownsRow 0 t k hdr n cells∧bs[i]? = some hdr.ownBlock∧D.flat A w k xs cells∧lo≤hi∧hi≤n∧∃ a cap,v = .slice a (hi - lo) cap∧hi - lo≤cap∧(lo<hi→∃ b,hdr.ownBlock=some b∧a=some ⟨b,lo*k,none⟩))
  | some .dead=>True
  | _=>False
 | .agg cs,v=>∃ vs:Array Value,v = .agg vs∧V.reps A w bs H cs vs.toList
 | .tup cs,v=>∃ vs:Array Value,v = .tuple vs∧V.reps A w bs H cs vs.toList
 | .fn f fs cs,v=>∃ vs us:Array Value,v = .func f vs us∧V.reps A w bs H fs vs.toList∧V.reps A w bs H cs us.toList
 | .junk,_=>True
def V.reps (A:Nat→Prop) (w:World) (bs:List (Option Nat)) (H:List Blk):List V→List Value→Prop
 | [],vs=>vs=[]
 | x::xs,vs=>∃ v vs',vs=v::vs'∧V.rep A w bs H x v∧V.reps A w bs H xs vs'
end
def Blk.rep (A:Nat→Prop) (w:World) (bs:List (Option Nat)) (H:List Blk) (i:Nat):Blk→Prop
 | .box t cs=>∃ b vs,bs[i]? = some (some b)∧w.heap[b]? = some (.cells vs t (0,0))∧V.reps A w bs H cs vs.toList
 | .vec _ _ _=>True
 | .arr t k xs=>∃ b vs,bs[i]? = some (some b)∧w.heap[b]? = some (.cells vs t (0,0))∧D.flat A w k xs vs.toList
 | .mp bo ks ds clock=>∃ (b:Nat) (es:Array MapEntry),bs[i]? = some (some b)∧w.heap[b]? = some (.map es clock)∧es.toList.map (·.born)=bo∧es.toList.map (·.key)=ks∧D.reps A w ds (es.toList.map (·.val))
 | .it j since seen last=>match H[j]? with
  | some (.mp _ _ _ _)=>∃ b m,bs[i]? = some (some b)∧bs[j]? = some (some m)∧w.heap[b]? = some (.mapIter (some m) since seen.toArray last)
  | some .dead=>True
  | _=>False
 | .que _ _ _ _=>True
 | .itd bo ks ds clock since seen last=>∃ (b mb:Nat) (es:Array MapEntry),bs[i]? = some (some b)∧¬ A mb∧mb<w.heap.size∧w.heap[mb]? = some (.map es clock)∧es.toList.map (·.born)=bo∧es.toList.map (·.key)=ks∧D.reps A w ds (es.toList.map (·.val))∧w.heap[b]? = some (.mapIter (some mb) since seen.toArray last)
 | .dead=>True
def Own (A0:Nat→Prop) (bs:List (Option Nat)) (b:Nat):Prop:=A0 b∨some b∈bs
structure OwnOK (A0:Nat→Prop) (bs:List (Option Nat)) (w:World):Prop where
 apart:∀ (i j:Nat) (b:Nat),bs[i]? = some (some b)→bs[j]? = some (some b)→i=j
 not:∀ b,some b∈bs→¬ A0 b
 lt:∀ b,some b∈bs→b<w.heap.size
 foreign:∀ b,A0 b→b<w.heap.size
 glob:zd1 (Own A0 bs) w
def look (t:Nat):List (Nat×V)→Option V
 | []=>none
 | (u,v)::r=>if t=u then some v else look t r
structure St where
 T:List (Nat×V)
 H:List Blk
def St.put (s:St) (d:Option Tmp) (v:V):St:=match d with | some d=>{ s with T:=(d,v)::s.T } | none=>s
mutual
def V.under (n:Nat):V→Bool
 | .d _ | .junk=>true
 | .loc i _ | .vec i _ | .arr i _ _ | .el i _ _ _ | .sub i _ _ _ | .mp i | .itp i | .que i _ | .qel i _ _=>Nat.blt i n
 | .agg cs | .tup cs=>V.unders n cs
 | .fn _ a b=>V.unders n a&&V.unders n b
def V.unders (n:Nat):List V→Bool
 | []=>true
 | x::xs=>x.under n&&V.unders n xs
end
structure Ctx where
 A0:Nat→Prop
 own0:Nat→Prop
 w0:World
 n:Nat
 esc:Act→World→Prop:=λ_ _=>False
 gh:List (V×Value):=[]
 gn:Nat:=0
 df:List Deferred:=[]
structure R (C:Ctx) (bs:List (Option Nat)) (s:St) (a:Act) (w:World):Prop where
 own:OwnOK C.A0 bs w
 len:bs.length=s.H.length
 blk:∀ (i:Nat) (k:Blk),s.H[i]? = some k→k.rep (Own C.A0 bs) w bs s.H i
 tmp:∀ (t:Nat) (v:V),look t s.T=some v→t<C.n∧V.rep (Own C.A0 bs) w bs s.H v (a.tmps.getD t undef)
 defers:a.defers=C.df
 size:a.tmps.size=C.n
 fr:Fr C.own0 C.w0 w
 new:∀ b,some b∈bs→C.own0 b∨C.w0.heap.size≤b
 gh:∀ p∈C.gh,p.1.under C.gn=true∧V.rep (Own C.A0 bs) w bs s.H p.1 p.2
def QR (C:Ctx) (Q:Exit→St→Prop):Exit→Act→World→Prop:=λe a' w'=>(∃ bs' s',Q e s'∧R C bs' s' a' w')∨(e = .ret∧C.esc a' w')
structure Tri (P:Program) (C:Ctx) (c:Code) (Q:Exit→St→Prop) (s:St):Prop where
 run:∀ bs a w,R C bs s a w→c.wp P (QR C Q) a w
theorem Tri.mono {P C c Q Q' s} (h:Tri P C c Q s) (hq:∀ e s,Q e s→Q' e s):Tri P C c Q' s:=
 ⟨λbs a w hR=>Code.wp_mono (λ_ _ _ h=>h.imp (λ⟨bs',s',hQ,hR'⟩=>⟨bs',s',hq _ _ hQ,hR'⟩) (λh=>h)) (h.run bs a w hR)⟩
theorem Tri.skip {P C Q s} (h:Q .normal s):Tri P C .skip Q s:=⟨λbs _ _ hR=>wp_skip (.inl ⟨bs,s,h,hR⟩)⟩
theorem Tri.ret {P C Q s} (h:Q .ret s):Tri P C .ret Q s:=⟨λbs _ _ hR=>wp_ret (.inl ⟨bs,s,h,hR⟩)⟩
theorem Tri.exit {P C Q s id} (h:Q (.exit id) s):Tri P C (.exit id) Q s:=⟨λbs _ _ hR=>wp_exit (.inl ⟨bs,s,h,hR⟩)⟩
def thenQ (next:St→Prop) (Q:Exit→St→Prop):Exit→St→Prop
 | .normal,s=>next s
 | e,s=>Q e s
def inBlockQ (id:Nat) (Q:Exit→St→Prop):Exit→St→Prop
 | .exit i,s=>if i=id then Q .normal s else Q (.exit i) s
 | e,s=>Q e s
theorem Tri.seq {P C Q s x y} (h:Tri P C x (thenQ (Tri P C y Q) Q) s):Tri P C (.seq x y) Q s:=by
 refine ⟨λbs a w hR=>?_⟩;refine wp_seq (Code.wp_mono ?_ (h.run bs a w hR));rintro e a' w' (⟨bs',s',hQ,hR'⟩ | ⟨rfl,hE⟩)
 ·cases e <;> simp only [Exit.then,thenQ] at hQ ⊢
  case normal=>exact hQ.run bs' a' w' hR'
  all_goals exact .inl ⟨bs',s',hQ,hR'⟩
 ·exact .inr ⟨rfl,hE⟩
theorem Tri.block {P C Q s id c} (h:Tri P C c (inBlockQ id Q) s):Tri P C (.block id c) Q s:=by
 refine ⟨λbs a w hR=>?_⟩;refine wp_block (Code.wp_mono ?_ (h.run bs a w hR));rintro e a' w' (⟨bs',s',hQ,hR'⟩ | ⟨rfl,hE⟩)
 ·cases e <;> simp only [Exit.inBlock,inBlockQ] at hQ ⊢
  case exit i=>split at hQ <;> rename_i hi <;> simp only [hi,if_true,if_false] <;> exact .inl ⟨bs',s',hQ,hR'⟩
  all_goals exact .inl ⟨bs',s',hQ,hR'⟩
 ·exact .inr ⟨rfl,hE⟩
def ev (T:List (Nat×V)):Operand→Option V
 | .tmp t=>look t T
 | .const v=>some (.d (.val v))
 | .func f=>some (.d (.fn (.func f) [] []))
 | .global g=>some (.d (.val (.pointer (some ⟨g,0,none⟩))))
end
section
variable [Globs] [Drw]
def zd:Nat→Prop:=λ_=>False
theorem D.rep_ext {A:Nat→Prop} {w w':World} (h:Fr zd w w') {d:D} {v:Value} (hv:d.rep A w v):d.rep A w' v:=
 D.rep_fr h (λ_ x=>x.elim) (λ_ _ x=>x) d v hv
theorem D.reps_ext {A w w'} (h:Fr zd w w') {ds vs} (hv:D.reps A w ds vs):D.reps A w' ds vs:=
 D.reps_fr h (λ_ x=>x.elim) (λ_ _ x=>x) ds vs hv
theorem D.flat_fr {A A' W w w' k} (h:Fr W w w') (hW:∀ b,W b→A b) (hA:∀ b,b<w.heap.size→A' b→A b) :
  ∀ (xs:List D) (cs:List Value),D.flat A w k xs cs→D.flat A' w' k xs cs
 | [],cs,hv=>by simpa only [D.flat] using hv
 | x::xs,cs,hv=>by
  simp only [D.flat] at hv ⊢;obtain ⟨u,cs',e,hk,h1,h2⟩:=hv;exact ⟨u,cs',e,hk,D.rep_fr h hW hA x u h1,D.flat_fr h hW hA xs cs' h2⟩
theorem D.flat_len {A w k}:∀ {xs:List D} {cs:List Value},D.flat A w k xs cs→cs.length=xs.length*k
 | [],cs,h=>by simp only [D.flat] at h;simp [h]
 | x::xs,cs,h=>by
  simp only [D.flat] at h;obtain ⟨u,cs',rfl,hk,_,h2⟩:=h;simp only [yG,yC,hk,D.flat_len h2,yJ,Nat.add_mul];omega
theorem D.flat_append {A w k}:∀ {xs ys:List D} {cs ds:List Value},D.flat A w k xs cs→D.flat A w k ys ds→D.flat A w k (xs++ys) (cs++ds)
 | [],ys,cs,ds,h,h'=>by simp only [D.flat] at h;subst h;simpa using h'
 | x::xs,ys,cs,ds,h,h'=>by
  simp only [D.flat] at h;obtain ⟨u,cs',rfl,hk,h1,h2⟩:=h;simp only [y7,D.flat];exact ⟨u,cs'++ds,by simp,hk,h1,D.flat_append h2 h'⟩
theorem QueAt.fr {A A' W w w' b o cap k t xs} (q:QueAt A w b o cap k t xs) (h:Fr W w w') (hb:¬ W b) (hW:∀ b,W b→A b) (hA:∀ b,b<w.heap.size→A' b→A b):QueAt A' w' b o cap k t xs:=by
 obtain ⟨h1,cells,h2,h3,cs,h4,h5⟩:=q;exact ⟨h1,cells,by rw [h.block b (ym.1 h2).1 hb];exact h2,h3,cs,D.flat_fr h hW hA xs cs h4,h5⟩
mutual
theorem V.rep_row {A A' w w' bs H row} (h:Fr (λb=>row=some b) w w') (hrow:∀ b,row=some b→A b∧∀ i:Nat,bs[i]?≠some (some b)) (hA:∀ b,b<w.heap.size→A' b→A b):∀ (x:V) (v:Value),V.rep A w bs H x v→V.rep A' w' bs H x v
 | .d x,v,hv=>by simp only [V.rep] at hv ⊢;exact D.rep_fr h (λb hb=>(hrow b hb).1) hA x v hv
 | .loc i off,v,hv=>by simpa only [V.rep] using hv
 | .vec i n,v,hv=>by
  simp only [V.rep] at hv ⊢;split at hv
  ·rename_i t k xs he;refine ⟨hv.1,λhn=>?_⟩;obtain ⟨cells,h1,h2,h3⟩:=hv.2 hn;exact ⟨cells,h1.kept (row:=row) ⟨h.os,h.tape,h.output,h.size,λb hb hne=>h.block b hb (λe=>hne e.symm)⟩ (by
    cases hob:v.ownBlock with
    | none=>exact .inl rfl
    | some b=>exact .inr λe=>(hrow b e.symm).2 i (by rw [h2,hob])),h2,D.flat_fr h (λb hb=>(hrow b hb).1) hA xs cells h3⟩
  ·trivial
  ·exact hv.elim
 | .arr i off n,v,hv=>by simpa only [V.rep] using hv
 | .el i n j off,v,hv=>by
  simp only [V.rep] at hv ⊢;split at hv
  ·rename_i t k xs he;refine ⟨hv.1,λhn=>?_⟩;obtain ⟨hdr,cells,h1,h2,h3,h4⟩:=hv.2 hn;exact ⟨hdr,cells,h1.kept (row:=row) ⟨h.os,h.tape,h.output,h.size,λb hb hne=>h.block b hb (λe=>hne e.symm)⟩ (by
    cases hob:hdr.ownBlock with
    | none=>exact .inl rfl
    | some b=>exact .inr λe=>(hrow b e.symm).2 i (by rw [h2,hob])),h2,D.flat_fr h (λb hb=>(hrow b hb).1) hA xs cells h3,h4⟩
  ·trivial
  ·exact hv.elim
 | .sub i n lo hi,v,hv=>by
  simp only [V.rep] at hv ⊢;split at hv
  ·rename_i t k xs he;refine ⟨hv.1,λhn=>?_⟩;obtain ⟨hdr,cells,h1,h2,h3,h4⟩:=hv.2 hn;exact ⟨hdr,cells,h1.kept (row:=row) ⟨h.os,h.tape,h.output,h.size,λb hb hne=>h.block b hb (λe=>hne e.symm)⟩ (by
    cases hob:hdr.ownBlock with
    | none=>exact .inl rfl
    | some b=>exact .inr λe=>(hrow b e.symm).2 i (by rw [h2,hob])),h2,D.flat_fr h (λb hb=>(hrow b hb).1) hA xs cells h3,h4⟩
  ·trivial
  ·exact hv.elim
 | .agg cs,v,hv=>by
  simp only [V.rep] at hv ⊢;obtain ⟨vs,e,hr⟩:=hv;exact ⟨vs,e,V.reps_row h hrow hA cs _ hr⟩
 | .tup cs,v,hv=>by
  simp only [V.rep] at hv ⊢;obtain ⟨vs,e,hr⟩:=hv;exact ⟨vs,e,V.reps_row h hrow hA cs _ hr⟩
 | .fn f fs cs,v,hv=>by
  simp only [V.rep] at hv ⊢;obtain ⟨vs,us,e,h1,h2⟩:=hv;exact ⟨vs,us,e,V.reps_row h hrow hA fs _ h1,V.reps_row h hrow hA cs _ h2⟩
 | .mp i,v,hv=>by simpa only [V.rep] using hv
 | .itp i,v,hv=>by simpa only [V.rep] using hv
 | .que i m,v,hv=>by
  simp only [V.rep] at hv ⊢;split at hv
  ·refine ⟨hv.1,λhn=>?_⟩;obtain ⟨b,o,cap,h1,h2,h3⟩:=hv.2 hn;exact ⟨b,o,cap,h1,h2,h3.fr h (λe=>(hrow b e).2 i h1) (λb hb=>(hrow b hb).1) hA⟩
  ·trivial
  ·exact hv.elim
 | .qel i m j,v,hv=>by
  simp only [V.rep] at hv ⊢;split at hv
  ·refine ⟨hv.1,λhn=>?_⟩;obtain ⟨b,o,cap,h1,h2,hj,h3⟩:=hv.2 hn;exact ⟨b,o,cap,h1,h2,hj,h3.fr h (λe=>(hrow b e).2 i h1) (λb hb=>(hrow b hb).1) hA⟩
  ·trivial
  ·exact hv.elim
 | .junk,_,_=>by simp only [V.rep]
theorem V.reps_row {A A' w w' bs H row} (h:Fr (λb=>row=some b) w w') (hrow:∀ b,row=some b→A b∧∀ i:Nat,bs[i]?≠some (some b)) (hA:∀ b,b<w.heap.size→A' b→A b):∀ (xs:List V) (vs:List Value),V.reps A w bs H xs vs→V.reps A' w' bs H xs vs
 | [],vs,hv=>by simpa only [V.reps] using hv
 | x::xs,vs,hv=>by
  simp only [V.reps] at hv ⊢;obtain ⟨v,vs',e,h1,h2⟩:=hv;exact ⟨v,vs',e,V.rep_row h hrow hA x v h1,V.reps_row h hrow hA xs vs' h2⟩
end
theorem Fr.rowNone {w w'} (h:Fr zd w w'):Fr (λb=>(none:Option Nat)=some b) w w':=h.mono λ_ _ x=>x.elim
theorem V.rep_sub {A A' w w' bs H} (h:Fr zd w w') (hA:∀ b,b<w.heap.size→A' b→A b) (x v) (hv:V.rep A w bs H x v):V.rep A' w' bs H x v:=
 V.rep_row h.rowNone (λ_ x=>(by cases x)) hA x v hv
theorem V.rep_ext {A w w' bs H} (h:Fr zd w w') (x v) (hv:V.rep A w bs H x v):V.rep A w' bs H x v:=V.rep_sub h (λ_ _ x=>x) x v hv
theorem Blk.rep_row {A A' w w' bs H} {row:Option Nat} (h:Fr (λb=>row=some b) w w') (hrow:∀ b,row=some b→A b∧∀ i:Nat,bs[i]?≠some (some b)) (hA:∀ b,b<w.heap.size→A' b→A b) (i:Nat) (k:Blk) (hk:k.rep A w bs H i):k.rep A' w' bs H i:=by
 cases k with
 | box t cs=>
  simp only [Blk.rep] at hk ⊢;obtain ⟨b,vs,h1,h2,h3⟩:=hk;exact ⟨b,vs,h1,by rw [h.block b (ym.1 h2).1 (λe=>(hrow b e).2 i h1)];exact h2,V.reps_row h hrow hA cs _ h3⟩
 | arr t k xs=>
  simp only [Blk.rep] at hk ⊢;obtain ⟨b,vs,h1,h2,h3⟩:=hk;exact ⟨b,vs,h1,by rw [h.block b (ym.1 h2).1 (λe=>(hrow b e).2 i h1)];exact h2,D.flat_fr h (λb hb=>(hrow b hb).1) hA xs _ h3⟩
 | mp bo ks ds clock=>
  simp only [Blk.rep] at hk ⊢;obtain ⟨b,es,h1,h2,h3,h4,h5⟩:=hk;exact ⟨b,es,h1,by rw [h.block b (ym.1 h2).1 (λe=>(hrow b e).2 i h1)];exact h2,h3,h4,D.reps_fr h (λb hb=>(hrow b hb).1) hA ds _ h5⟩
 | it j since seen last=>
  simp only [Blk.rep] at hk ⊢;split at hk
  ·obtain ⟨b,m,h1,h2,h3⟩:=hk;exact ⟨b,m,h1,h2,by rw [h.block b (ym.1 h3).1 (λe=>(hrow b e).2 i h1)];exact h3⟩
  ·trivial
  ·exact hk.elim
 | itd bo ks ds clock since seen last=>
  simp only [Blk.rep] at hk ⊢;obtain ⟨b,mb,es,h1,h2,h3,h4,h5,h6,h7,h8⟩:=hk;exact ⟨b,mb,es,h1,λe=>h2 (hA mb h3 e),yL h3 h.size,by rw [h.block mb h3 (λe=>h2 (hrow mb e).1)];exact h4,h5,h6,D.reps_fr h (λb hb=>(hrow b hb).1) hA ds _ h7,by rw [h.block b (ym.1 h8).1 (λe=>(hrow b e).2 i h1)];exact h8⟩
 | vec t k xs=>trivial
 | que s t k xs=>trivial
 | dead=>trivial
theorem Blk.rep_sub {A A' w w' bs H} (h:Fr zd w w') (hA:∀ b,b<w.heap.size→A' b→A b) (i:Nat) (k:Blk) (hk:k.rep A w bs H i):k.rep A' w' bs H i:=
 Blk.rep_row h.rowNone (λ_ x=>(by cases x)) hA i k hk
theorem Blk.rep_ext {A w w' bs H} (h:Fr zd w w') (i:Nat) (k:Blk) (hk:k.rep A w bs H i):k.rep A w' bs H i:=Blk.rep_sub h (λ_ _ x=>x) i k hk
theorem OwnOK.ext {A0 bs w w'} (h:OwnOK A0 bs w) (hf:Fr zd w w'):OwnOK A0 bs w':=
 ⟨h.apart,h.not,λb hb=>yL (h.lt b hb) hf.size,λb hb=>yL (h.foreign b hb) hf.size,h.glob.fr hf (λ_ x=>x.elim) (λ_ _ h=>h)⟩
structure Mem (A0:Nat→Prop) (bs:List (Option Nat)) (H:List Blk) (w:World):Prop where
 own:OwnOK A0 bs w
 len:bs.length=H.length
 blk:∀ (i:Nat) (k:Blk),H[i]? = some k→k.rep (Own A0 bs) w bs H i
theorem Mem.ext {A0 bs H w w'} (m:Mem A0 bs H w) (h:Fr zd w w'):Mem A0 bs H w':=
 ⟨m.own.ext h,m.len,λi k hk=>Blk.rep_ext h i k (m.blk i k hk)⟩
theorem R.mem {C bs s a w} (h:R C bs s a w):Mem C.A0 bs s.H w:=⟨h.own,h.len,h.blk⟩
def zfO (P:Program) (K:Value→World→Prop):Result Next→Prop
 | .ok (.value u) w'=>K u w'
 | .ok .skip w'=>K undef w'
 | .ok (.enter f args) w'=>Calls P f args w' (λe w''=>∃ u,e = .returned u∧K u w'')
 | _=>False
structure OpV (P:Program) (o:Oper) (e:Operand→Option V) (H:List Blk) (v:V):Prop where
 run:∀ (A0:Nat→Prop) (bs:List (Option Nat)) (w:World) (f:Operand→Value),Mem A0 bs H w →
  (∀ x∈o.op.operands,∀ y,e x=some y→V.rep (Own A0 bs) w bs H y (f x))→(∀ c,f (.const c)=c)→(∀ k,f (.func k) = .func (.func k) #[] #[]) →
  zfO P (λu w'=>Fr zd w w'∧V.rep (Own A0 bs) w' bs H v u) ((execOp f o).run P w)
theorem zbc (t d v T):look t ((d,v)::T)=if t=d then some v else look t T:=rfl
theorem zeN (a:Array Value) (d t:Nat) (u x:Value) (hd:d<a.size):(a.setIfInBounds d u).getD t x=if t=d then u else a.getD t x:=by
 simp only [yP,Array.getElem?_setIfInBounds];by_cases h:d=t
 ·subst h;simp [hd]
 ·have h':t≠d:=λe=>h e.symm
  simp [h,h']
theorem R.ev {C bs s a w} (h:R C bs s a w) {x y} (hx:ev s.T x=some y):V.rep (Own C.A0 bs) w bs s.H y (a.eval x):=by
 cases x with
 | tmp t=>exact (h.tmp t y hx).2
 | const v=>simp only [Go.Proofs.YtbnhmfnagdgcmaaGreatDoor.ev,yh] at hx;subst hx;simp only [V.rep,D.rep,Act.eval]
 | func f=>simp only [Go.Proofs.YtbnhmfnagdgcmaaGreatDoor.ev,yh] at hx;subst hx;simp [V.rep,D.rep,D.reps,Act.eval]
 | global g=>simp only [Go.Proofs.YtbnhmfnagdgcmaaGreatDoor.ev,yh] at hx;subst hx;simp only [V.rep,D.rep,Act.eval]
def dstOK (d:Option Tmp) (n:Nat):Bool:=match d with | some t=>Nat.blt t n | none=>true
theorem R.put {C bs s a w w'} (h:R C bs s a w) (hf:Fr zd w w') (d:Option Tmp) (hd:dstOK d C.n=true) {v u} (hv:V.rep (Own C.A0 bs) w' bs s.H v u) :
  R C bs (s.put d v) (a.put d u) w':=by
 have m:=h.mem.ext hf;have hfr:Fr C.own0 C.w0 w':=h.fr.trans (hf.mono λ_ _ x=>x.elim);cases d with
 | none=>exact ⟨m.own,m.len,m.blk,λt x hx=>⟨(h.tmp t x hx).1,V.rep_ext hf x _ (h.tmp t x hx).2⟩,h.defers,h.size,hfr,h.new,λp hp=>⟨(h.gh p hp).1,V.rep_ext hf p.1 _ (h.gh p hp).2⟩⟩
 | some d=>
  have hlt:d<a.tmps.size:=by rw [h.size];simpa [dstOK] using hd
  refine ⟨m.own,m.len,m.blk,λt x hx=>?_,h.defers,by simpa [Act.put] using h.size,hfr,h.new,λp hp=>⟨(h.gh p hp).1,V.rep_ext hf p.1 _ (h.gh p hp).2⟩⟩;simp only [St.put,zbc] at hx;simp only [Act.put,zeN _ _ _ _ _ hlt];split at hx <;> rename_i ht
  ·cases hx;rw [if_pos ht];exact ⟨by rw [ht,← h.size];exact hlt,hv⟩
  ·rw [if_neg ht];exact ⟨(h.tmp t x hx).1,V.rep_ext hf x _ (h.tmp t x hx).2⟩
structure TriL (P:Program) (C:Ctx) (ops:Array Oper) (rest:List Oper) (Q:Exit→St→Prop) (s:St):Prop where
 run:∀ bs a w,R C bs s a w→wpList P ops (QR C Q) rest a w
theorem TriL.nil {P C ops Q s} (h:Q .normal s):TriL P C ops [] Q s:=
 ⟨λbs _ _ hR=>wpList_nil (.inl ⟨bs,s,h,hR⟩)⟩
theorem Oper.wp_of_runs {P o a w} {K:Value→World→Prop} {next:Act→World→Prop} {Q:Exit→Act→World→Prop}
  (h:zfO P K ((execOp a.eval o).run P w)) (hn:∀ u w',K u w'→next (a.put o.dst u) w'):o.wp P a w next Q:=by
 unfold Oper.wp;generalize (execOp a.eval o).run P w=r at *;cases r with
 | ok x w'=>
  cases x <;> simp only [zfO,Oper.upon] at h ⊢
  case value u=>exact hn _ _ h
  case skip=>exact hn _ _ h
  case enter f args=>exact h.mono λe w'' ⟨u,he,hk⟩=>by subst he;exact hn _ _ hk
 | halt x w'=>simp only [zfO] at h
theorem TriL.op {P C ops o rest Q s v}
  (hg:o.guard=none) (hd:dstOK o.dst C.n=true) (hv:OpV P o (ev s.T) s.H v) (k:TriL P C ops rest Q (s.put o.dst v)):TriL P C ops (o::rest) Q s:=by
 refine ⟨λbs a w hR=>?_⟩;refine wpList_plain hg λK hK=>?_
 refine Oper.wp_of_runs (hv.run C.A0 bs w a.eval hR.mem (λx _ y hx=>hR.ev hx) (λ_=>rfl) (λ_=>rfl)) λu w' ⟨hf,hu⟩=>?_
 exact hK _ _ (k.run bs _ _ (hR.put hf o.dst hd hu))
theorem Tri.region {P C Q s id l} (h:TriL P C l.toArray l Q s):Tri P C (.region id l.toArray false) Q s:=
 ⟨λbs a w hR=>wp_region_lit (h.run bs a w hR)⟩
theorem Tri.cond {P C Q s c x y t} (hc:ev s.T c=some (.d (.val (.bool t))))
  (ht:t=true→Tri P C x Q s) (hf:t=false→Tri P C y Q s):Tri P C (.cond c x y) Q s:=by
 refine ⟨λbs a w hR=>?_⟩;have e:a.eval c = .bool t:=by have:=hR.ev hc;simpa only [V.rep,D.rep] using this
 exact wp_cond_split e (λh=>(ht h).run bs a w hR) (λh=>(hf h).run bs a w hR)
theorem R.weaken {C bs s a w} (h:R C bs s a w) {T} (hT:∀ t v,look t T=some v→look t s.T=some v):R C bs ⟨T,s.H⟩ a w:=
 ⟨h.own,h.len,h.blk,λt v hv=>h.tmp t v (hT t v hv),h.defers,h.size,h.fr,h.new,h.gh⟩
def Sub:List (Nat×V)→List (Nat×V)→Prop
 | [],_=>True
 | (t,v)::r,T=>look t T=some v∧Sub r T
theorem Sub.look {L T} (h:Sub L T):∀ t v,look t L=some v→look t T=some v:=by
 induction L with
 | nil=>intro t v hv;simp [Go.Proofs.YtbnhmfnagdgcmaaGreatDoor.look] at hv
 | cons p L ih=>
  intro t v hv;obtain ⟨u,x⟩:=p;simp only [Sub] at h;simp only [zbc] at hv;split at hv <;> rename_i e
  ·cases hv;rw [e];exact h.1
  ·exact ih h.2 t v hv
def St.le (s t:St):Prop:=s.H=t.H∧Sub t.T s.T
theorem R.le {C bs s t a w} (h:R C bs s a w) (hl:s.le t):R C bs t a w:=by
 obtain ⟨T,H⟩:=t;obtain ⟨rfl,hs⟩:=hl;exact h.weaken hs.look
theorem Tri.le {P C Q s t c} (hl:s.le t) (h:Tri P C c Q t):Tri P C c Q s:=⟨λbs a w hR=>h.run bs a w (hR.le hl)⟩
theorem Tri.loopP {P C Q s c} (N) (I:Nat→St→Prop) (h0:I 0 s)
  (h:∀ i s,i≤N→I i s→Tri P C c (thenQ (λs'=>i<N∧I (i+1) s') Q) s):Tri P C (.loop c) Q s:=by
 refine ⟨λbs a w hR=>?_⟩;refine wp_loop_rounds (N+1) ?_;have key:∀ m i bs s a w,i+m=N→I i s→R C bs s a w→Code.rounds P c (QR C Q) (m+1) a w:=by
  intro m
  induction m with
  | zero=>
   intro i bs s a w hm hI hR;rw [rounds_succ];refine Code.wp_mono ?_ ((h i s (by omega) hI).run bs a w hR);rintro e a' w' (⟨bs',s',hQ,hR'⟩ | ⟨rfl,hE⟩)
   ·cases e <;> simp only [thenQ,Exit.then] at hQ ⊢
    case normal=>omega
    all_goals exact .inl ⟨bs',s',hQ,hR'⟩
   ·exact .inr ⟨rfl,hE⟩
  | succ m ih=>
   intro i bs s a w hm hI hR;rw [rounds_succ];refine Code.wp_mono ?_ ((h i s (by omega) hI).run bs a w hR);rintro e a' w' (⟨bs',s',hQ,hR'⟩ | ⟨rfl,hE⟩)
   ·cases e <;> simp only [thenQ,Exit.then] at hQ ⊢
    case normal=>exact ih (i+1) bs' s' a' w' (by omega) hQ.2 hR'
    all_goals exact .inl ⟨bs',s',hQ,hR'⟩
   ·exact .inr ⟨rfl,hE⟩
 exact key N 0 bs s a w (by omega) h0 hR
end
section
variable [Globs] [Drw]
def zE (P:Program) (t:TypeId):Option (Option Nat):=
 match P.underlying t with
 | none=>none
 | some d=>if d.isRow then (P.info? t).map (λi=>some i.size) else some none
def D.shape:D→Option Nat
 | .agg cs=>some cs.length
 | .val (.agg vs)=>some vs.size
 | _=>none
theorem D.cells_of_agg {A:Nat→Prop} {w:World} {d:D} {v:Value} {n:Nat} (h:d.rep A w v) (hs:d.shape=some n):∃ vs:Array Value,v = .agg vs∧vs.size=n:=by
 cases d with
 | agg cs=>
  simp only [D.rep] at h;obtain ⟨vs,rfl,hr⟩:=h;simp only [D.shape,yh] at hs;exact ⟨vs,rfl,by have:=D.reps_len hr;simp at this;omega⟩
 | val x=>
  simp only [D.rep] at h;subst h;cases v <;> simp [D.shape] at hs
  exact ⟨_,rfl,hs⟩
 | _=>simp [D.shape] at hs
theorem D.cells_of_one {A:Nat→Prop} {w:World} {d:D} {v:Value} (h:d.rep A w v) (hs:d.shape=none):v.cells = #[v]:=by
 cases d with
 | agg cs=>simp [D.shape] at hs
 | val x=>
  simp only [D.rep] at h;subst h;cases v <;> first | rfl | simp [D.shape] at hs
 | tup cs=>simp only [D.rep] at h;obtain ⟨vs,rfl,_⟩:=h;rfl
 | sl k xs=>simp only [D.rep] at h;obtain ⟨a,cap,rfl,_⟩:=h;rfl
 | ref x=>simp only [D.rep] at h;obtain ⟨b,off,u,rfl,_⟩:=h;rfl
 | fn f fs cs=>simp only [D.rep] at h;obtain ⟨vs,us,rfl,_⟩:=h;rfl
 | mp ks ds=>simp only [D.rep] at h;obtain ⟨b,es,cl,rfl,_⟩:=h;rfl
 | err=>simp only [D.rep] at h;obtain ⟨t,u,rfl⟩:=h;rfl
theorem zeS {P:Program} {A:Nat→Prop} {w:World} {t:TypeId} {k:Option Nat} (ht:zE P t=some k) {b off:Nat} {d:D} {u:Value} (hd:d.rep A w u) (hk:d.shape=k) (hc:zdW w b off u) :
  (Instr.loadAt t (.pointer (some ⟨b,off,none⟩))).run P w = .ok u w:=by
 unfold zE at ht;cases hu:P.underlying t with
 | none=>simp [hu] at ht
 | some ty=>
  simp only [hu] at ht;by_cases hrow:ty.isRow=true
  ·rw [if_pos hrow] at ht;cases hi:P.info? t with
   | none=>simp [hi] at ht
   | some i=>
    simp only [hi,yT,yh] at ht;subst ht;obtain ⟨vs,rfl,hn⟩:=D.cells_of_agg hd hk;exact run_loadAt_mid w b off t vs.toList ty (λj v hv=>by
     have hj:j<vs.size:=by have:=(yb.1 hv).1;simpa using this
     have:=hc j (by simpa [Value.cells] using hj);simp only [Value.cells] at this;rw [this];simpa using hv) hu hrow (by simp [hi,hn])
  ·rw [if_neg hrow] at ht;simp only [yh] at ht;subst ht;have h1:=D.cells_of_one hd hk;have h0:=hc 0 (by rw [h1];simp);rw [h1] at h0;simp only [uu] at h0;have hagg:(isAgg t).run P w = .ok false w:=by
    unfold isAgg;rw [Sem.run_bind,run_underlying hu w];cases ty <;> simp_all
   simp [Instr.loadAt,Instr.sureAddr,loadVar,hagg,h0]
mutual
inductive Frz (H:List Blk):V→D→Prop
 | d (x:D):Frz H (.d x) x
 | vec {i n:Nat} {t:TypeId} {k:Nat} {xs:List D}:H[i]? = some (.vec t k xs)→n=xs.length→Frz H (.vec i n) (.sl k xs)
 | sub {i n lo hi:Nat} {t:TypeId} {k:Nat} {xs:List D}:H[i]? = some (.vec t k xs)→n=xs.length→Frz H (.sub i n lo hi) (.sl k ((xs.drop lo).take (hi - lo)))
 | arr {i off n:Nat} {t:TypeId} {k:Nat} {xs:List D}:H[i]? = some (.arr t k xs)→off+n≤xs.length→Frz H (.arr i off n) (.sl k ((xs.drop off).take n))
 | agg {cs:List V} {ds:List D}:Frzs H cs ds→Frz H (.agg cs) (.agg ds)
 | tup {cs:List V} {ds:List D}:Frzs H cs ds→Frz H (.tup cs) (.tup ds)
 | fn {f:Fn} {a b:List V} {x y:List D}:Frzs H a x→Frzs H b y→Frz H (.fn f a b) (.fn f x y)
 | loc {i:Nat} {t:TypeId} {cs:List V} {ds:List D}:H[i]? = some (.box t cs)→Frzs H cs ds→Frz H (.loc i 0) (.ref (.agg ds))
 | loc1 {i:Nat} {t:TypeId} {c:V} {d:D}:H[i]? = some (.box t [c])→Frz H c d→d.shape=none→Frz H (.loc i 0) (.ref d)
 | mp {i:Nat} {bo:List Nat} {ks:List Value} {ds:List D} {cl:Nat}:H[i]? = some (.mp bo ks ds cl)→wfM bo cl→Frz H (.mp i) (.mp ks ds)
inductive Frzs (H:List Blk):List V→List D→Prop
 | nil:Frzs H [] []
 | cons {x:V} {d:D} {xs:List V} {ds:List D}:Frz H x d→Frzs H xs ds→Frzs H (x::xs) (d::ds)
end
theorem D.row_of_flat {A A' w k b} (hA:∀ c,c<w.heap.size→A' c→A c):∀ (xs:List D) (cs:List Value) (off:Nat),D.flat A w k xs cs →
  (∀ j v,cs[j]? = some v→w.cell? ⟨b,off+j,none⟩=some v)→D.row A' w b k xs off
 | [],_,_,_,_=>by simp only [D.row]
 | x::xs,cs,off,h,hc=>by
  simp only [D.flat] at h;obtain ⟨u,cs',rfl,hk,h1,h2⟩:=h;simp only [D.row];refine ⟨⟨u,D.rep_fr (Fr.refl zd w) (λ_ x=>x.elim) hA x u h1,λj hj=>?_,hk⟩,D.row_of_flat hA xs cs' (off+k) h2 λj v hv=>?_⟩
  ·have hj':j<u.cells.toList.length:=by simpa using hj
   have:=hc j (u.cells[j]) (by rw [yg hj'];simp [hj]);rw [this];simp [hj]
  ·have:=hc (k+j) v (by rw [yD (by simp [hk])];simpa [hk] using hv);rw [Nat.add_assoc];exact this
theorem D.row_drop {A w b k}:∀ (n:Nat) (xs:List D) (off:Nat),D.row A w b k xs off→D.row A w b k (xs.drop n) (off+n*k)
 | 0,xs,off,h=>by simpa using h
 | n+1,[],off,h=>by simp only [List.drop_nil,D.row]
 | n+1,x::xs,off,h=>by
  simp only [D.row] at h;have:=D.row_drop n xs (off+k) h.2;rw [List.drop_succ_cons,uj,show off+(n*k+k)=off+k+n*k by omega];exact this
theorem D.row_take {A w b k}:∀ (n:Nat) (xs:List D) (off:Nat),D.row A w b k xs off→D.row A w b k (xs.take n) off
 | 0,_,_,_=>by simp only [List.take_zero,D.row]
 | n+1,[],_,_=>by simp only [List.take_nil,D.row]
 | n+1,x::xs,off,h=>by
  simp only [D.row] at h;simp only [List.take_succ_cons,D.row];exact ⟨h.1,D.row_take n xs (off+k) h.2⟩
theorem zab {w:World} {b:Nat} {c:Array Value} {t:TypeId} {fr:Nat×Nat} (h:w.heap[b]? = some (.cells c t fr)) (j:Nat):w.cell? ⟨b,j,none⟩=c[j]?:=by
 simp [World.cell?,h]
mutual
theorem Frz.rep {A0:Nat→Prop} {bs:List (Option Nat)} {H:List Blk} {w:World} (m:Mem A0 bs H w):∀ {x:V} {d:D},Frz H x d→∀ (v:Value),V.rep (Own A0 bs) w bs H x v→D.rep A0 w d v
 | _,_,.d x,v,hv=>by
  simp only [V.rep] at hv;exact D.rep_fr (Fr.refl zd w) (λ_ x=>x.elim) (λ_ _ h=>.inl h) x v hv
 | _,_,.vec (t:=t) (k:=k) (xs:=xs) hi hn,v,hv=>by
  simp only [V.rep,hi] at hv;obtain ⟨cells,h1,h2,h3⟩:=hv.2 hn;have hl:=D.flat_len h3;simp only [D.rep];rcases h1.2 with ⟨rfl,hn0⟩ | ⟨g,cap,cur,rfl,_,hg,hcap,hcm,hcs,htake⟩
  ·exact ⟨none,0,by rw [← hn,hn0],by omega,.inl (yW (by omega))⟩
  ·refine ⟨some ⟨g,0,none⟩,cap,by rw [← hn],by omega,.inr ⟨g,0,rfl,λh=>m.own.not g ?_ h,(ym.1 hg).1,D.row_of_flat (λ_ _ h=>.inl h) xs cells 0 h3 λj u hu=>?_⟩⟩
   ·have:=yu h2;simpa [Value.ownBlock] using this
   ·have:=h1.cells (g:=g) rfl j u hu
    rwa [Addr.add_mid] at this
 | _,_,.sub (i:=i) (n:=n) (lo:=lo) (hi:=hh) (t:=t) (k:=k) (xs:=xs) hi hn,v,hv=>by
  simp only [V.rep,hi] at hv;obtain ⟨hdr,cells,h1,h2,h3,hlo,hhi,ad,cap,rfl,hcap,hne⟩:=hv.2 hn;have hlen:((xs.drop lo).take (hh - lo)).length=hh - lo:=by rw [yR,ua];omega
  simp only [D.rep];refine ⟨ad,cap,by rw [hlen],by rw [hlen];exact hcap,?_⟩;by_cases hlt:lo<hh
  ·obtain ⟨b,hb,rfl⟩:=hne hlt;rcases h1.2 with ⟨rfl,hn0⟩ | ⟨g,cp,cur,rfl,_,hg,hcp,hcm,hcs,htake⟩
   ·simp [Value.ownBlock] at hb
   ·obtain rfl:g=b:=by simpa [Value.ownBlock] using hb
    refine .inr ⟨g,lo*k,rfl,λh=>m.own.not g (by have:=yu h2;simpa [Value.ownBlock] using this) h,(ym.1 hg).1,D.row_take _ _ _ ?_⟩;have h0:=D.row_of_flat (b:=g) (λ_ _ h=>.inl h) xs cells 0 h3 λj u hu=>by
     have:=h1.cells (g:=g) rfl j u hu
     rwa [Addr.add_mid] at this
    have:=D.row_drop lo xs 0 h0;simpa using this
  ·refine .inl (yW (by rw [hlen];omega))
 | _,_,.arr (i:=i) (off:=off) (t:=t) (k:=k) (xs:=xs) hi hn,v,hv=>by
  simp only [V.rep,hi] at hv;obtain ⟨b,hb,ho,rfl⟩:=hv;have hblk:=m.blk i _ hi;simp only [Blk.rep] at hblk;obtain ⟨b',vs,hb',hh,hf⟩:=hblk;obtain rfl:b=b':=by rw [hb] at hb';simpa using hb'
  simp only [D.rep];refine ⟨_,_,by rw [yR,ua,Nat.min_eq_left (by omega)],by rw [yR,ua,Nat.min_eq_left (by omega)];omega,.inr ⟨b,_,rfl,λh=>m.own.not b (yu hb) h,(ym.1 hh).1,?_⟩⟩;refine D.row_take _ _ _ ?_;have h0:=D.row_of_flat (b:=b) (A':=A0) (λ_ _ h=>.inl h) xs vs.toList 0 hf λj u hu=>by rw [zab hh];simpa using hu
  have:=D.row_drop off xs 0 h0;simpa using this
 | _,_,.agg h,v,hv=>by
  simp only [V.rep] at hv;obtain ⟨vs,rfl,hr⟩:=hv;simp only [D.rep];exact ⟨vs,rfl,Frzs.reps m h _ hr⟩
 | _,_,.tup h,v,hv=>by
  simp only [V.rep] at hv;obtain ⟨vs,rfl,hr⟩:=hv;simp only [D.rep];exact ⟨vs,rfl,Frzs.reps m h _ hr⟩
 | _,_,.fn h1 h2,v,hv=>by
  simp only [V.rep] at hv;obtain ⟨vs,us,rfl,r1,r2⟩:=hv;simp only [D.rep];exact ⟨vs,us,rfl,Frzs.reps m h1 _ r1,Frzs.reps m h2 _ r2⟩
 | _,_,.loc (i:=i) hi h,v,hv=>by
  simp only [V.rep,hi] at hv;obtain ⟨b,hb,rfl⟩:=hv;have hblk:=m.blk i _ hi;simp only [Blk.rep] at hblk;obtain ⟨b',vs,hb',hh,hf⟩:=hblk;obtain rfl:b=b':=by rw [hb] at hb';simpa using hb'
  simp only [D.rep];refine ⟨b,0,.agg vs,rfl,λh=>m.own.not b (yu hb) h,(ym.1 hh).1,⟨vs,rfl,Frzs.reps m h _ hf⟩,λj hj=>?_⟩;rw [zab hh];simp [Value.cells]
 | _,_,.mp (i:=i) hi hwf,v,hv=>by
  simp only [V.rep,hi] at hv;obtain ⟨b,hb,rfl⟩:=hv;have hblk:=m.blk i _ hi;simp only [Blk.rep] at hblk;obtain ⟨b',es,hb',hh,hbo,hk,hf⟩:=hblk;obtain rfl:b=b':=by rw [hb] at hb';simpa using hb'
  simp only [D.rep];exact ⟨b,es,_,rfl,λh=>m.own.not b (yu hb) h,(ym.1 hh).1,hh,hk,by rw [hbo];exact hwf,D.reps_fr (Fr.refl zd w) (λ_ x=>x.elim) (λ_ _ h=>.inl h) _ _ hf⟩
 | _,_,.loc1 (i:=i) hi h hs,v,hv=>by
  simp only [V.rep,hi] at hv;obtain ⟨b,hb,rfl⟩:=hv;have hblk:=m.blk i _ hi;simp only [Blk.rep] at hblk;obtain ⟨b',vs,hb',hh,hf⟩:=hblk;obtain rfl:b=b':=by rw [hb] at hb';simpa using hb'
  simp only [V.reps] at hf;obtain ⟨u,us,e,hu,e2⟩:=hf;subst e2;have hr:=Frz.rep m h u hu;simp only [D.rep];refine ⟨b,0,u,rfl,λh=>m.own.not b (yu hb) h,(ym.1 hh).1,hr,λj hj=>?_⟩;have hcu:=D.cells_of_one hr hs;rw [hcu] at hj ⊢;have hj0:j=0:=by simp at hj;omega
  subst hj0;rw [zab hh,← yY,e];simp
theorem Frzs.reps {A0 bs H w} (m:Mem A0 bs H w):∀ {xs:List V} {ds:List D},Frzs H xs ds→∀ (vs:List Value),V.reps (Own A0 bs) w bs H xs vs→D.reps A0 w ds vs
 | _,_,.nil,vs,hv=>by simpa only [V.reps,D.reps] using hv
 | _,_,.cons h hs,vs,hv=>by
  simp only [V.reps] at hv;obtain ⟨v,vs',rfl,r1,r2⟩:=hv;simp only [D.reps];exact ⟨v,vs',rfl,Frz.rep m h v r1,Frzs.reps m hs vs' r2⟩
end
structure Pure (P:Program) (f:FuncId) (xs:List D) (y:D):Prop where
 run:∀ (A:Nat→Prop) (w:World) (vs:Array Value),(∀ b,A b→b<w.heap.size)→zd1 A w→D.reps A w xs vs.toList →
  Calls P f vs w (λe w'=>∃ u,e = .returned u∧Fr zd w w'∧D.rep A w' y u)
def params:Nat→List D→List (Nat×V)
 | _,[]=>[]
 | i,x::xs=>(i,.d x)::params (i+1) xs
theorem zer {A w bs H}:∀ (xs:List D) (i:Nat) (vs:List Value) (tmps:Array Value),D.reps A w xs vs→(∀ j,j<vs.length→tmps.getD (i+j) undef=vs.getD j undef)→i+vs.length≤tmps.size →
  ∀ t v,look t (params i xs)=some v→t<tmps.size∧V.rep A w bs H v (tmps.getD t undef)
 | [],_,_,_,_,_,_,t,v,h=>by simp [params,look] at h
 | x::xs,i,vs,tmps,hr,hj,hn,t,v,h=>by
  simp only [D.reps] at hr;obtain ⟨u,vs',rfl,h1,h2⟩:=hr;simp only [params,zbc] at h;simp only [yJ] at hn;split at h <;> rename_i e
  ·cases h;subst e;have:=hj 0 (by simp);simp only [uu,List.getD_cons_zero] at this;exact ⟨by omega,by simp only [V.rep];rw [this];exact h1⟩
  ·exact zer xs (i+1) vs' tmps h2 (λj hj'=>by
    have:=hj (j+1) (by simpa using hj');rw [show i+1+j=i+(j+1) by omega,this];simp) (by omega) t v h
def ResOf (P:Program) (s:St):List ResultVar→List D→Prop
 | [],ds=>ds=[]
 | .tmp t::rs,ds=>∃ d ds' v,ds=d::ds'∧look t s.T=some v∧Frz s.H v d∧ResOf P s rs ds'
 | .cell t ty::rs,ds=>∃ d ds' i T cs,ds=d::ds'∧look t s.T=some (.loc i 0)∧s.H[i]? = some (.box T cs)∧zE P ty=some d.shape∧Frz s.H (.loc i 0) (.ref d)∧ResOf P s rs ds'
def zeP:List D→D
 | [d]=>d
 | ds=>.tup ds
def retQ (P:Program) (rs:Array ResultVar) (y:D) (e:Exit) (s:St):Prop:=
 (e = .ret∨e = .normal)∧∃ ds,zeP ds=y∧ResOf P s rs.toList ds
def zeA (a:Array Value):ResultVar→Sem Value
 | .tmp t=>pure (a.getD t undef)
 | .cell b t=>do loadVar t (← asAddr (a.getD b undef))
theorem zdz (fn a):results fn a=(do let vs ← fn.results.mapM (zeA a);pure (if h:vs.size=1 then vs[0] else .tuple vs)):=by
 unfold results;congr 1
theorem res_runs {P:Program} {C:Ctx} {bs:List (Option Nat)} {s:St} {a:Act} {w:World} (hR:R C bs s a w):∀ (rs:List ResultVar) (ds:List D),ResOf P s rs ds →
  ∃ vs:List Value,(rs.mapM (zeA a.tmps)).run P w = .ok vs w∧D.reps C.A0 w ds vs
 | [],ds,h=>by simp only [ResOf] at h;subst h;exact ⟨[],by simp,by simp [D.reps]⟩
 | .tmp t::rs,ds,h=>by
  simp only [ResOf] at h;obtain ⟨d,ds',v,rfl,h1,h2,h3⟩:=h;obtain ⟨vs,hr,hv⟩:=res_runs hR rs ds' h3;refine ⟨a.tmps.getD t undef::vs,?_,?_⟩
  ·simp only [List.mapM_cons,Sem.run_bind,zeA,Sem.run_pure,Result.andThen_ok,hr]
  ·simp only [D.reps];exact ⟨_,_,rfl,Frz.rep hR.mem h2 _ (hR.tmp t v h1).2,hv⟩
 | .cell t ty::rs,ds,h=>by
  simp only [ResOf] at h;obtain ⟨d0,ds',i,T,cs,rfl,h1,h2,h3,hf,h5⟩:=h;obtain ⟨vs,hr,hv⟩:=res_runs hR rs ds' h5;have hp:=(hR.tmp t _ h1).2;simp only [V.rep,h2] at hp;obtain ⟨b,hb,hp⟩:=hp;have hrep:=Frz.rep hR.mem hf (a.tmps.getD t undef) (by simp only [V.rep,h2];exact ⟨b,hb,hp⟩);simp only [D.rep] at hrep;obtain ⟨b',off,u,e,hnb,hlt,hu,hc⟩:=hrep;rw [hp] at e;simp only [Value.pointer.injEq,yh,Addr.mk.injEq,and_true] at e;obtain ⟨rfl,rfl⟩:=e;have hl:=zeS (P:=P) (A:=C.A0) (d:=d0) h3 hu rfl hc;simp only [Instr.loadAt,Instr.sureAddr,Sem.run_bind,Sem.run_pure,Result.andThen_ok] at hl;refine ⟨u::vs,?_,?_⟩
  ·have h1:(zeA a.tmps (.cell t ty)).run P w = .ok u w:=by simp only [zeA,Sem.run_bind,hp,asAddr,Sem.run_pure,Result.andThen_ok,hl]
   simp only [List.mapM_cons,Sem.run_bind,h1,Sem.run_pure,Result.andThen_ok,hr]
  ·simp only [D.reps];exact ⟨_,_,rfl,hu,hv⟩
theorem Pure.of_tri {P f fn c xs y} (hf:P.funcs[f]? = some fn) (hb:fn.body=some c) (hn:xs.length≤fn.ntmps)
  (h:∀ A w,Tri P ⟨A,zd,w,fn.ntmps,λ_ _=>False,[],0,[]⟩ c (retQ P fn.results y) ⟨params 0 xs,[]⟩):Pure P f xs y:=by
 refine ⟨λA w vs hA hG hr=>?_⟩;have hlen:=D.reps_len hr;refine calls_of_wp hf hb (Code.wp_mono ?_ ((h A w).run [] _ w ?_))
 ·rintro e a' w' (⟨bs',s',⟨he,ds,hy,hres⟩,hR⟩ | ⟨_,hE⟩)
  case inr=>exact hE.elim
  obtain ⟨us,hrun,hreps⟩:=res_runs hR fn.results.toList ds hres;have hl:=D.reps_len hreps;have hfr:Fr zd w w':=hR.fr;have hfin:∃ u,(results fn a'.tmps).run P w' = .ok u w'∧D.rep A w' y u:=by
   have hm:(fn.results.mapM (zeA a'.tmps)).run P w' = .ok us.toArray w':=by
    rw [← Array.toArray_toList (xs:=fn.results),List.mapM_toArray];simp only [Sem.run_map,hrun,Result.andThen_ok]
   rw [zdz];simp only [Sem.run_bind,hm,Result.andThen_ok,Sem.run_pure];refine ⟨_,rfl,?_⟩
   match ds,us,hreps,hl with
   | [d],[u],hreps,_=>
    simp only [D.reps] at hreps;obtain ⟨_,_,e,h1,_⟩:=hreps;simp only [List.cons.injEq] at e;obtain ⟨rfl,_⟩:=e;simp only [zeP] at hy;subst hy;simpa using h1
   | [],[],hreps,_=>simp only [zeP] at hy;subst hy;simpa [D.rep] using hreps
   | d1::d2::ds,u1::u2::us,hreps,_=>
    simp only [zeP] at hy;subst hy;have hne:¬ (u1::u2::us).toArray.size=1:=by simp
    rw [dif_neg hne];simp only [D.rep];exact ⟨_,rfl,hreps⟩
  obtain ⟨u,hu1,hu2⟩:=hfin;rcases he with rfl | rfl
  ·exact ⟨hR.defers,u,hu1,u,rfl,hfr,hu2⟩
  ·exact ⟨hR.defers,u,hu1,u,rfl,hfr,hu2⟩
 ·have hsz:(vs++Array.replicate (fn.ntmps - vs.size) undef).size=fn.ntmps:=by
   simp only [yC] at hlen;simp;omega
  refine ⟨⟨by simp,by simp,by simp,hA,hG.fr (Fr.refl zd w) (λ_ x=>x.elim) (λb _ hb=>hb.elim id (λh=>by simp at h))⟩,rfl,by simp,λt v hv=>?_,rfl,hsz,Fr.refl _ _,by simp,λp hp=>(by cases hp)⟩;have:=zer (A:=Own A []) (w:=w) (bs:=[]) (H:=[]) xs 0 vs.toList (vs++Array.replicate (fn.ntmps - vs.size) undef)
   (D.reps_fr (Fr.refl zd w) (λ_ x=>x.elim) (λb _ hb=>hb.elim id (λh=>by simp at h)) xs _ hr)
   (λj hj=>by
    have hj':j<vs.size:=by simpa using hj
    simp [yP,Array.getElem?_append,hj',List.getD])
   (by rw [hsz];simp only [yC] at hlen;simp;omega) t v hv
  rw [hsz] at this;exact this
end
section
variable [Globs] [Drw]
abbrev D.int (n:Int):D:=.val (.int .i64 n)
abbrev D.bool (b:Bool):D:=.val (.bool b)
abbrev D.str (l:List UInt8):D:=.val (.string ⟨l.toArray⟩)
theorem str_size (l:List UInt8):(⟨l.toArray⟩:ByteArray).size=l.length:=rfl
theorem zhG (a b:List UInt8):((⟨a.toArray⟩:ByteArray).toList==(⟨b.toArray⟩:ByteArray).toList)=decide (a=b):=by
 rw [ByteArray.toList_eq,ByteArray.toList_eq,Bool.eq_iff_iff];simp
section
variable {P:Program} {o:Oper} {e:Operand→Option V} {H:List Blk}
theorem OpV.of_same {v} (h:∀ (A0:Nat→Prop) (bs:List (Option Nat)) (w:World) (f:Operand→Value),Mem A0 bs H w →
  (∀ x∈o.op.operands,∀ y,e x=some y→V.rep (Own A0 bs) w bs H y (f x))→∃ u,(execOp f o).run P w = .ok (.value u) w∧V.rep (Own A0 bs) w bs H v u):OpV P o e H v:=by
 refine ⟨λA0 bs w f m hf _ _=>?_⟩;obtain ⟨u,hr,hv⟩:=h A0 bs w f m hf;rw [hr];exact ⟨Fr.refl _ _,hv⟩
theorem zr {A w bs H x u}:V.rep A w bs H (.d (.val x)) u↔u=x:=by simp only [V.rep,D.rep]
theorem OpV.move {x v} (ho:o.op = .move x) (hx:e x=some v):OpV P o e H v:=
 .of_same λ_ _ w f _ hf=>⟨f x,by simp [execOp,ho],hf x (by simp [ho,Op.operands]) v hx⟩
theorem OpV.assign {x v} (ho:o.op = .assign x) (hx:e x=some v):OpV P o e H v:=
 .of_same λ_ _ w f _ hf=>⟨f x,by simp [execOp,ho],hf x (by simp [ho,Op.operands]) v hx⟩
theorem OpV.pick {c x y b v} (ho:o.op = .pick c x y) (hc:e c=some (.d (.bool b))) (hx:b=true→e x=some v) (hy:b=false→e y=some v):OpV P o e H v:=
 .of_same λ_ _ w f _ hf=>by
  have h1:=zr.1 (hf c (by simp [ho,Op.operands]) _ hc);cases b
  ·exact ⟨f y,by simp [execOp,ho,h1,asBool],hf y (by simp [ho,Op.operands]) v (hy rfl)⟩
  ·exact ⟨f x,by simp [execOp,ho,h1,asBool],hf x (by simp [ho,Op.operands]) v (hx rfl)⟩
theorem OpV.bin_int {op:BinOp} {t u x y k a b r} (ho:o.op = .binOp op t x y u) (hx:e x=some (.d (.val (.int k a)))) (hy:e y=some (.d (.val (.int k b))))
  (hr:∀ w,(binOp op t (.int k a) (.int k b)).run P w = .ok r w):OpV P o e H (.d (.val r)):=
 .of_same λ_ _ w f _ hf=>by
  have h1:=zr.1 (hf x (by simp [ho,Op.operands]) _ hx);have h2:=zr.1 (hf y (by simp [ho,Op.operands]) _ hy);refine ⟨r,?_,zr.2 rfl⟩;simp only [execOp,ho,h1,h2,eqGuard_at_int,Sem.run_bind,Sem.run_pure,Result.andThen_ok,hr w]
theorem OpV.add {t u x y k a b} (ho:o.op = .binOp .add t x y u) (hx:e x=some (.d (.val (.int k a)))) (hy:e y=some (.d (.val (.int k b)))):OpV P o e H (.d (.val (.int k (k.wrap (a+b))))):=
 .bin_int ho hx hy λw=>by simp [binOp,Op.intArith]
theorem OpV.sub {t u x y k a b} (ho:o.op = .binOp .sub t x y u) (hx:e x=some (.d (.val (.int k a)))) (hy:e y=some (.d (.val (.int k b)))):OpV P o e H (.d (.val (.int k (k.wrap (a - b))))):=
 .bin_int ho hx hy λw=>by simp [binOp,Op.intArith]
theorem OpV.mul {t u x y k a b} (ho:o.op = .binOp .mul t x y u) (hx:e x=some (.d (.val (.int k a)))) (hy:e y=some (.d (.val (.int k b)))):OpV P o e H (.d (.val (.int k (k.wrap (a*b))))):=
 .bin_int ho hx hy λw=>by simp [binOp,Op.intArith]
theorem OpV.lss {t u x y k a b} (ho:o.op = .binOp .lss t x y u) (hx:e x=some (.d (.val (.int k a)))) (hy:e y=some (.d (.val (.int k b)))):OpV P o e H (.d (.bool (decide (a<b)))):=
 .bin_int ho hx hy λw=>by simp [binOp,Op.intCmp]
theorem OpV.leq {t u x y k a b} (ho:o.op = .binOp .leq t x y u) (hx:e x=some (.d (.val (.int k a)))) (hy:e y=some (.d (.val (.int k b)))):OpV P o e H (.d (.bool (decide (a≤b)))):=
 .bin_int ho hx hy λw=>by simp [binOp,Op.intCmp]
theorem OpV.gtr {t u x y k a b} (ho:o.op = .binOp .gtr t x y u) (hx:e x=some (.d (.val (.int k a)))) (hy:e y=some (.d (.val (.int k b)))):OpV P o e H (.d (.bool (decide (b<a)))):=
 .bin_int ho hx hy λw=>by simp [binOp,Op.intCmp]
theorem OpV.geq {t u x y k a b} (ho:o.op = .binOp .geq t x y u) (hx:e x=some (.d (.val (.int k a)))) (hy:e y=some (.d (.val (.int k b)))):OpV P o e H (.d (.bool (decide (b≤a)))):=
 .bin_int ho hx hy λw=>by simp [binOp,Op.intCmp]
theorem OpV.eql {t u x y k a b} (ho:o.op = .binOp .eql t x y u) (hx:e x=some (.d (.val (.int k a)))) (hy:e y=some (.d (.val (.int k b)))):OpV P o e H (.d (.bool (a==b))):=
 .bin_int ho hx hy λw=>by simp [binOp,Op.intCmp]
theorem OpV.neq {t u x y k a b} (ho:o.op = .binOp .neq t x y u) (hx:e x=some (.d (.val (.int k a)))) (hy:e y=some (.d (.val (.int k b)))):OpV P o e H (.d (.bool (a != b))):=
 .bin_int ho hx hy λw=>by simp [binOp,Op.intCmp]
theorem OpV.not {t x b} (ho:o.op = .unOp .not t x) (hx:e x=some (.d (.bool b))):OpV P o e H (.d (.bool !b)):=
 .of_same λ_ _ w f _ hf=>by
  have h1:=zr.1 (hf x (by simp [ho,Op.operands]) _ hx);exact ⟨.bool !b,by simp [execOp,ho,h1,Op.unary],zr.2 rfl⟩
theorem OpV.neg {t x k a} (ho:o.op = .unOp .neg t x) (hx:e x=some (.d (.val (.int k a)))):OpV P o e H (.d (.val (.int k (k.wrap (-a))))):=
 .of_same λ_ _ w f _ hf=>by
  have h1:=zr.1 (hf x (by simp [ho,Op.operands]) _ hx);exact ⟨.int k (k.wrap (-a)),by simp [execOp,ho,h1,Op.unary,Op.intArith],zr.2 rfl⟩
theorem OpV.str_eql {t u x y} {a b:List UInt8} (ho:o.op = .binOp .eql t x y u) (hx:e x=some (.d (.str a))) (hy:e y=some (.d (.str b))):OpV P o e H (.d (.bool (decide (a=b)))):=
 .of_same λ_ _ w f _ hf=>by
  have h1:=zr.1 (hf x (by simp [ho,Op.operands]) _ hx);have h2:=zr.1 (hf y (by simp [ho,Op.operands]) _ hy);exact ⟨.bool (decide (a=b)),by simp only [execOp,ho,h1,h2,eqGuard_at_string,binOp,Op.stringOp,Sem.run_bind,Sem.run_pure,Result.andThen_ok,zhG],zr.2 rfl⟩
theorem OpV.str_neq {t u x y} {a b:List UInt8} (ho:o.op = .binOp .neq t x y u) (hx:e x=some (.d (.str a))) (hy:e y=some (.d (.str b))):OpV P o e H (.d (.bool (!decide (a=b)))):=
 .of_same λ_ _ w f _ hf=>by
  have h1:=zr.1 (hf x (by simp [ho,Op.operands]) _ hx);have h2:=zr.1 (hf y (by simp [ho,Op.operands]) _ hy);exact ⟨.bool (!decide (a=b)),by simp only [execOp,ho,h1,h2,eqGuard_at_string,binOp,Op.stringOp,Sem.run_bind,Sem.run_pure,Result.andThen_ok,zhG],zr.2 rfl⟩
theorem OpV.box {t x d} (ho:o.op = .box t x) (hx:e x=some (.d d)):OpV P o e H (.d (.ref d)):=by
 refine ⟨λA0 bs w f m hf _ _=>?_⟩;have h1:=hf x (by simp [ho,Op.operands]) _ hx;simp only [V.rep] at h1;have hrun:(execOp f o).run P w = .ok (.value (.pointer (some ⟨w.heap.size,0,none⟩))) (w.alloc (.cells (f x).cells t)):=by
  simp only [execOp,ho,Instr.box,newVar,newRow,newObj,Sem.run_bind,Sem.run_pure];rfl
 rw [hrun];have hfr:Fr zd w (w.alloc (.cells (f x).cells t)):=⟨rfl,rfl,rfl,by simp,λb hb _=>Below.heap_alloc w _ b hb,λ_=>yn _⟩
 refine ⟨hfr,?_⟩;simp only [V.rep,D.rep];refine ⟨w.heap.size,0,f x,rfl,λh=>?_,by simp,D.rep_ext hfr h1,λj hj=>?_⟩
 ·rcases h with h | h
  ·exact absurd (m.own.foreign _ h) (by omega)
  ·exact absurd (m.own.lt _ h) (by omega)
 ·have:=heap_alloc_new w (.cells (f x).cells t);rw [zab this];simp
structure Fld (P:Program) (t:TypeId) (i:Nat) (x y:D):Prop where
 out:∃ fs f n cs,P.underlying t=some (.struct fs)∧fs[i]? = some f∧zE P f.type=some n∧x = .agg cs∧(P.info? f.type).any (λi=>i.size != 0)=true∧y.shape=n ∧
  match n with
  | none=>cs[f.offset]? = some y
  | some k=>f.offset+k≤cs.length∧y = .agg ((cs.drop f.offset).take k)
theorem reps_agg_cells {w b off vs} (hc:zdW w b off (.agg vs)) (o k) (hk:o+k≤vs.size):zdW w b (off+o) (.agg (vs.toList.drop o |>.take k).toArray):=by
 intro j hj;simp only [Value.cells,uF,yR,ua,yC] at hj;have:=hc (o+j) (by simp only [Value.cells];omega);simp only [Value.cells] at this ⊢;rw [Nat.add_assoc,this];simp only [List.getElem?_toArray,uH,List.getElem?_drop,yY];rw [if_pos (by omega)]
theorem OpV.fieldAddr {t x i a b} (ho:o.op = .fieldAddr t x i) (hx:e x=some (.d (.ref a))) (hf:Fld P t i a b):OpV P o e H (.d (.ref b)):=
 .of_same λA0 bs w f _ hw=>by
  have h1:=hw x (by simp [ho,Op.operands]) _ hx;simp only [V.rep,D.rep] at h1;obtain ⟨bl,off,u,hp,hn,hlt,hu,hc⟩:=h1;obtain ⟨fs,fl,n,cs,hut,hfi,hsh,rfl,hne,hys,hpart⟩:=hf.out;simp only [D.rep] at hu;obtain ⟨vs,rfl,hr⟩:=hu;have hl:=D.reps_len hr;simp only [yC] at hl;cases hinf:P.info? fl.type with
  | none=>simp [hinf] at hne
  | some inf=>
   have hsz:inf.size≠0:=by simpa [hinf] using hne
   refine ⟨.pointer (some ⟨bl,off+fl.offset,none⟩),?_,?_⟩
   ·simp [execOp,ho,hp,Instr.fieldAt,run_underlying hut,hfi,Instr.sureAddr,fieldPlace,sizeOf,typeInfo,hinf,hsz,Addr.add_lit]
   ·simp only [V.rep,D.rep];cases n with
    | none=>
     simp only at hpart;obtain ⟨v,hv,hrv⟩:=D.reps_get hr fl.offset b hpart;refine ⟨bl,off+fl.offset,v,rfl,hn,hlt,hrv,λj hj=>?_⟩;rw [D.cells_of_one hrv hys] at hj ⊢;have hj0:j=0:=by simp at hj;omega
     subst hj0;have hlt':=(yb.1 hv).1;have:=hc fl.offset (by simpa [Value.cells] using hlt');simp only [Value.cells] at this;rw [uu,this];simpa using hv
    | some k=>
     simp only at hpart;obtain ⟨hk,rfl⟩:=hpart;refine ⟨bl,off+fl.offset,.agg (vs.toList.drop fl.offset |>.take k).toArray,rfl,hn,hlt,?_,reps_agg_cells hc fl.offset k (by omega)⟩;simp only [D.rep];exact ⟨_,rfl,D.reps_take k (D.reps_drop fl.offset hr)⟩
theorem OpV.load {t x d k} (ho:o.op = .load t x) (hx:e x=some (.d (.ref d))) (ht:zE P t=some k) (hk:d.shape=k):OpV P o e H (.d d):=
 .of_same λA0 bs w f _ hw=>by
  have h1:=hw x (by simp [ho,Op.operands]) _ hx;simp only [V.rep,D.rep] at h1;obtain ⟨bl,off,u,hp,hn,hlt,hu,hc⟩:=h1;refine ⟨u,?_,by simp only [V.rep];exact hu⟩;simp only [execOp,ho,hp,Sem.run_bind,zeS ht hu hk hc,Result.andThen_ok,Sem.run_pure]
theorem OpV.len_sl {x k xs t el} (ho:o.op = .call { callee:=.builtin .len,args:=#[x],argTypes:=#[t] }) (ht:P.underlying t=some (.slice el)) (hx:e x=some (.d (.sl k xs))):OpV P o e H (.d (.int xs.length)):=
 .of_same λA0 bs w f _ hw=>by
  have h1:=hw x (by simp [ho,Op.operands,Call.operands]) _ hx;simp only [V.rep,D.rep] at h1;obtain ⟨a,cap,hp,_⟩:=h1;refine ⟨.int .i64 xs.length,?_,zr.2 rfl⟩;simp [execOp,ho,resolve,invoke,builtin,Builtin.len_,hp,run_underlying ht,goInt]
theorem OpV.len_str {x} {l:List UInt8} {t} (ho:o.op = .call { callee:=.builtin .len,args:=#[x],argTypes:=#[t] }) (ht:P.underlying t=some .string) (hx:e x=some (.d (.str l))):OpV P o e H (.d (.int l.length)):=
 .of_same λA0 bs w f _ hw=>by
  have h1:=zr.1 (hw x (by simp [ho,Op.operands,Call.operands]) _ hx);refine ⟨.int .i64 l.length,?_,zr.2 rfl⟩;simp [execOp,ho,resolve,invoke,builtin,Builtin.len_,h1,run_underlying ht,goInt,str_size]
theorem OpV.indexAddr {α:Type} {t el x i} {k:Nat} {l:List α} {enc:α→D} {a:Int} {n:Nat} (ho:o.op = .indexAddr t x i) (hx:e x=some (.d (.sl k (l.map enc)))) (hi:e i=some (.d (.int a)))
  (ht:P.underlying t=some (.slice el)) (hs:(P.info? el).map (·.size)=some k) (ha:a=(n:Int)) (hn:n<l.length):OpV P o e H (.d (.ref (enc l[n]))):=
 .of_same λA0 bs w f _ hw=>by
  have h1:=hw x (by simp [ho,Op.operands]) _ hx;have h2:=zr.1 (hw i (by simp [ho,Op.operands]) _ hi);simp only [V.rep,D.rep] at h1;obtain ⟨ad,cap,hp,_,hr⟩:=h1;subst ha;rcases hr with hr | ⟨b,off,rfl,hnb,hlt,hrow⟩
  ·simp at hr;subst hr;simp at hn
  ·obtain ⟨u,hu,hc,_⟩:=D.row_get hrow n (by simpa using hn);simp only [List.getElem_map] at hu;cases hinf:P.info? el with
   | none=>simp [hinf] at hs
   | some inf=>
    have hsz:inf.size=k:=by simpa [hinf] using hs
    refine ⟨.pointer (some ⟨b,off+n*k,none⟩),?_,?_⟩
    ·have hlen:(0:Int)≤n∧(n:Int)<(l.map enc).length:=by simp;omega
     simp only [execOp,ho,hp,h2,Instr.indexAt,asIntOf,Sem.run_bind,Sem.run_pure,Result.andThen_ok,run_underlying ht];rw [if_pos hlen];simp [sizeOf,typeInfo,hinf,hsz,Addr.add_lit]
    ·simp only [V.rep,D.rep];exact ⟨b,off+n*k,u,rfl,hnb,hlt,hu,hc⟩
def fldAt (P:Program) (t:TypeId) (i:Nat):Option (Nat×Option Nat):=
 match P.underlying t with
 | some (.struct fs)=>match fs[i]? with
  | some f=>match zE P f.type with
   | some n=>if (P.info? f.type).any (λi=>i.size != 0) then some (f.offset,n) else none
   | none=>none
  | none=>none
 | _=>none
def partOf (cs:List D) (off:Nat):Option Nat→Option D
 | none=>cs[off]?
 | some k=>if off+k≤cs.length then some (.agg ((cs.drop off).take k)) else none
theorem Fld.of {P t i off n cs y} (h:fldAt P t i=some (off,n)) (hs:y.shape=n) (hp:partOf cs off n=some y):Fld P t i (.agg cs) y:=by
 unfold fldAt at h;split at h
 ·rename_i fs hu;split at h
  ·rename_i f hf;split at h
   ·rename_i m hm;split at h <;> rename_i hne
    ·simp only [yh,yx] at h;obtain ⟨rfl,rfl⟩:=h;refine ⟨⟨fs,f,m,cs,hu,hf,hm,rfl,hne,hs,?_⟩⟩;cases m with
     | none=>exact hp
     | some k=>
      simp only [partOf] at hp;split at hp
      ·simp only [yh] at hp;exact ⟨by assumption,hp.symm⟩
      ·cases hp
    ·cases h
   ·cases h
  ·cases h
 ·cases h
def evs (e:Operand→Option V):List Operand→Option (List D)
 | []=>some []
 | x::xs=>match e x,evs e xs with
  | some (.d d),some ds=>some (d::ds)
  | _,_=>none
theorem zgP {A w bs f}:∀ {xs:List Operand} {ds:List D},evs e xs=some ds→(∀ x∈xs,∀ y,e x=some y→V.rep A w bs H y (f x))→D.reps A w ds (xs.map f)
 | [],ds,h,_=>by simp only [evs,yh] at h;subst h;simp [D.reps]
 | x::xs,ds,h,hf=>by
  simp only [evs] at h;split at h
  ·rename_i d ds' h1 h2;simp only [yh] at h;subst h;simp only [yM,D.reps];refine ⟨_,_,rfl,?_,zgP h2 λy hy=>hf y (by simp [hy])⟩;have:=hf x (by simp) _ h1;simpa only [V.rep] using this
  ·cases h
def callable (P : Program) (f : FuncId) : Bool := (P.funcs[f]?).any fun fn => !(fn.name == "runtime.NumGoroutine") && fn.body.isSome
theorem zbt {P f} (h:callable P f=true) (args w):(callFunc f args).run P w = .ok (.enter f args) w:=by
 unfold callable at h;cases hf:P.funcs[f]? with
 | none=>simp [hf] at h
 | some fn=>
  simp only [hf,Option.any_some,yc,yw,ub] at h;cases hb:fn.body with
  | none=>simp [hb] at h
  | some c=>simp [callFunc,hf,h.1,hb]
theorem OpV.call {f args tys xs y} (ho:o.op = .call { callee:=.value (.func f),args:=args,argTypes:=tys }) (hc:callable P f=true)
  (ha:evs e args.toList=some xs) (hp:Pure P f xs y):OpV P o e H (.d y):=by
 refine ⟨λA0 bs w g m hf _ hk=>?_⟩;have hrun:(execOp g o).run P w = .ok (.enter f (args.map g)) w:=by
  simp only [execOp,ho,resolve,hk,Deferred.ofValue,Sem.run_bind,Sem.run_pure,Result.andThen_ok,invoke];simpa using zbt hc (args.map g) w
 rw [hrun];have hreps:D.reps (Own A0 bs) w xs (args.map g).toList:=by
  have:=zgP (A:=Own A0 bs) (w:=w) (bs:=bs) (f:=g) ha (λx hx=>hf x (by simp [ho,Op.operands,Call.operands];right;simpa using hx));simpa using this
 refine (hp.run (Own A0 bs) w (args.map g) (λb hb=>?_) m.own.glob hreps).mono λe' w' ⟨u,he,hfr,hr⟩=>⟨u,he,hfr,by simpa only [V.rep] using hr⟩
 rcases hb with hb | hb
 ·exact m.own.foreign b hb
 ·exact m.own.lt b hb
end
def D.one:D→Bool
 | .agg _ | .tup _=>false
 | .val (.agg _) | .val (.tuple _)=>false
 | _=>true
def D.ones:D→Bool
 | .agg cs=>cs.all D.one
 | d=>d.one
theorem D.one_cell {A:Nat→Prop} {w:World} {d:D} {v:Value} (h:d.rep A w v) (h1:d.one=true):v.oneCell'=true:=by
 cases d with
 | agg cs=>simp [D.one] at h1
 | tup cs=>simp [D.one] at h1
 | val x=>
  simp only [D.rep] at h;subst h;cases v <;> first | rfl | simp [D.one] at h1
 | sl k xs=>simp only [D.rep] at h;obtain ⟨a,cap,rfl,_⟩:=h;rfl
 | ref x=>simp only [D.rep] at h;obtain ⟨b,off,u,rfl,_⟩:=h;rfl
 | fn f fs cs=>simp only [D.rep] at h;obtain ⟨vs,us,rfl,_⟩:=h;rfl
 | mp ks ds=>simp only [D.rep] at h;obtain ⟨b,es,cl,rfl,_⟩:=h;rfl
 | err=>simp only [D.rep] at h;obtain ⟨t,u,rfl⟩:=h;rfl
theorem D.one_cells {A:Nat→Prop} {w:World} {d:D} {v:Value} (h:d.rep A w v) (h1:d.ones=true):∀ c∈v.cells.toList,c.oneCell'=true:=by
 cases d with
 | agg cs=>
  simp only [D.rep] at h;obtain ⟨vs,rfl,hr⟩:=h;simp only [D.ones,yo] at h1;have key:∀ (cs:List D) (us:List Value),(∀ x∈cs,x.one=true)→D.reps A w cs us→∀ c∈us,c.oneCell'=true:=by
   intro cs
   induction cs with
   | nil=>intro us _ hr c hc;simp only [D.reps] at hr;subst hr;simp at hc
   | cons x xs ih=>
    intro us h1 hr c hc;simp only [D.reps] at hr;obtain ⟨u,us',rfl,r1,r2⟩:=hr;rcases yI.1 hc with rfl | hc
    ·exact D.one_cell r1 (h1 x (by simp))
    ·exact ih us' (λy hy=>h1 y (by simp [hy])) r2 c hc
  simpa [Value.cells] using key cs vs.toList h1 hr
 | _=>
  simp only [D.ones] at h1;have h2:=D.one_cell h h1;have h3:=D.cells_of_one h (by
   first
    | rfl
    | (simp only [D.rep] at h;subst h;cases v <;> first | rfl | simp [D.one] at h1))
  rw [h3];intro c hc;simp at hc;subst hc;exact h2
def zaW (P:Program) (t:TypeId) (k:Option Nat):Bool:=
 match P.info? t with
 | some i=>i.size==k.getD 1&&(match i.zero with | some z=>z.cells.size==i.size | none=>false)
 | none=>false
theorem D.cells_size {A:Nat→Prop} {w:World} {d:D} {v:Value} {k:Option Nat} (h:d.rep A w v) (hk:d.shape=k):v.cells.size=k.getD 1:=by
 cases k with
 | none=>rw [D.cells_of_one h hk];rfl
 | some n=>obtain ⟨vs,rfl,hn⟩:=D.cells_of_agg h hk;simpa [Value.cells] using hn
theorem TriL.allocStore {P:Program} {C:Ctx} {ops:Array Oper} {o1 o2:Oper} {rest:List Oper} {Q:Exit→St→Prop} {s:St} {d:D} {t:TypeId} {x:Operand} {r:Tmp} {k:Option Nat}
  (hg1:o1.guard=none) (hg2:o2.guard=none) (ho1:o1.op = .alloc t) (hd1:o1.dst=some r) (ho2:o2.op = .store t (.tmp r) x) (hd2:o2.dst=none) (hn:Nat.blt r C.n=true)
  (hx:ev s.T x=some (.d d)) (hne:x≠.tmp r) (hk:d.shape=k) (hone:d.ones=true) (hz:zaW P t k=true) (kk:TriL P C ops rest Q (s.put (some r) (.d (.ref d)))):TriL P C ops (o1::o2::rest) Q s:=by
 refine ⟨λbs a w hR=>?_⟩;have hlt:r<a.tmps.size:=by rw [hR.size];simpa using hn
 unfold zaW at hz;cases hi:P.info? t with
 | none=>simp [hi] at hz
 | some i=>
  simp only [hi,yc,beq_iff_eq] at hz;obtain ⟨hsz,hz⟩:=hz;cases hzz:i.zero with
  | none=>simp [hzz] at hz
  | some z=>
   simp only [hzz,beq_iff_eq] at hz;have hx1:=hR.ev hx;simp only [V.rep] at hx1;have hcs:(a.eval x).cells.size=i.size:=by rw [D.cells_size hx1 hk,hsz]
   refine wpList_plain hg1 λK hK=>?_
   have hrun1:(execOp a.eval o1).run P w = .ok (.value (.pointer (some ⟨w.heap.size,0,none⟩))) (w.alloc (.cells z.cells t)):=by
    simp only [execOp,ho1,Instr.alloc,zeroValue,typeInfo,program,newVar,newRow,newObj,Sem.run_bind,Sem.run,hi,hzz,Sem.run_pure,Result.andThen_ok];rfl
   unfold Oper.wp;rw [hrun1];simp only [Oper.upon,hd1];refine hK _ _ ?_;refine wpList_plain hg2 λK2 hK2=>?_
   have hev:(a.put (some r) (.pointer (some ⟨w.heap.size,0,none⟩))).eval x=a.eval x:=by
    cases x with
    | tmp t'=>
     have:t'≠r:=λh=>hne (by rw [h])
     simp only [Act.eval,Act.put,zeN _ _ _ _ _ hlt,this,if_false]
    | _=>rfl
   have hev':(a.put (some r) (.pointer (some ⟨w.heap.size,0,none⟩))).eval (.tmp r) = .pointer (some ⟨w.heap.size,0,none⟩):=by
    simp only [Act.eval,Act.put,zeN _ _ _ _ _ hlt,if_true]
   have hnew:=heap_alloc_new w (.cells z.cells t);have hst:=run_storeCells_from (P:=P) w.heap.size t (a.eval x).cells.toList 0 z.cells (w.alloc (.cells z.cells t)) hnew (by simp;omega) (λv hv=>D.one_cells hx1 hone v hv);have hrun2:(execOp (a.put (some r) (.pointer (some ⟨w.heap.size,0,none⟩))).eval o2).run P (w.alloc (.cells z.cells t)) = .ok .skip ((w.alloc (.cells z.cells t)).setRow w.heap.size (a.eval x).cells):=by
    simp only [execOp,ho2,hev,hev',Instr.storeAt,Instr.sureAddr,storeVar,sizeOf,typeInfo,program,Sem.run_bind,Sem.run,hi,Sem.run_pure,Result.andThen_ok,hcs,ne_eq,not_true_eq_false,if_false];simp only [List.take_zero,yV,Array.toArray_toList] at hst;simp [hst]
   unfold Oper.wp;rw [hrun2];simp only [Oper.upon,hd2];refine hK2 _ _ (kk.run bs _ _ ?_);have hfr:Fr zd w ((w.alloc (.cells z.cells t)).setRow w.heap.size (a.eval x).cells):=
    ⟨rfl,rfl,rfl,by simp,λb hb _=>by rw [setRow_other _ _ _ _ (by omega)];exact Below.heap_alloc w _ b hb,λ_=>yn _⟩
   have:=hR.put hfr (some r) (by simpa [dstOK] using hn) (v:=.d (.ref d)) (u:=.pointer (some ⟨w.heap.size,0,none⟩)) (by
    simp only [V.rep,D.rep];refine ⟨w.heap.size,0,a.eval x,rfl,λh=>?_,by simp,D.rep_ext hfr hx1,λj hj=>?_⟩
    ·rcases h with h | h
     ·exact absurd (hR.own.foreign _ h) (by omega)
     ·exact absurd (hR.own.lt _ h) (by omega)
    ·have h2:=setRow_heap (w.alloc (.cells z.cells t)) w.heap.size z.cells (a.eval x).cells t _ hnew;rw [zab h2];simp)
   exact this
end
section
variable [Globs] [Drw]
def putT (T:List (Nat×V)) (d:Option Tmp) (v:V):List (Nat×V):=match d with | some d=>(d,v)::T | none=>T
theorem St.put_eq (s:St) (d:Option Tmp) (v:V):s.put d v=⟨putT s.T d v,s.H⟩:=by cases d <;> rfl
abbrev V.undef:V:=.d (.val Go.undef)
def zf4:Value→Option Bool | .bool b=>some b | _=>none
theorem R.yielded {C:Ctx} {bs:List (Option Nat)} {s:St} {a:Act} {w:World} (h:R C bs s a w) {ops:Array Oper} {j g:Nat} {x:Value} (hj:(ops[j]?).bind (·.dst)=some g) (hx:look g s.T=some (.d (.val x))) :
  Go.yielded ops a.tmps j=zf4 x:=by
 obtain ⟨hlt,h1⟩:=h.tmp g _ hx;rw [← h.size] at hlt;have h1:=zr.1 h1;have h2:a.tmps[g]? = some x:=by
  rw [yP] at h1;simp only [uh hlt,yf] at h1 ⊢;rw [h1]
 simp only [Go.yielded,hj,ya,h2,zf4];cases x <;> rfl
def zb3 (P:Program) (t:TypeId):Option Value:=match P.info? t with | some i=>i.zero | none=>none
def zfz (o:Oper):Bool:=match o.op with | .alloc _=>true | _=>false
def z0 (o:Oper):Bool:=match o.op with | .alloc _ | .store _ _ _=>true | _=>false
theorem not_alloc {o} (h:z0 o=false):zfz o=false:=by
 unfold z0 at h;unfold zfz;cases ho:o.op <;> rw [ho] at h <;> first | rfl | cases h
abbrev Ev:=Nat×TypeId×Option D
def V.cellsV:V→List V
 | .d (.agg ds)=>ds.map .d
 | .d (.val (.agg vs))=>vs.toList.map λv=>.d (.val v)
 | .agg cs=>cs
 | v=>[v]
def Wk (n:Nat) (T T1:List (Nat×V)):Prop:=∀ t v,look t T1=some v→look t T=some v∨(v = .junk∧t<n)
theorem Wk.refl (n T):Wk n T T:=λ_ _ h=>.inl h
theorem Wk.trans {n T T1 T2} (h:Wk n T T1) (k:Wk n T1 T2):Wk n T T2:=λt v hv=>(k t v hv).elim (h t v) .inr
def TriQ0 (P:Program) (n:Nat) (ops:Array Oper) (H:List Blk):List Oper→List Ev→List (Nat×V)→(List Ev→List (Nat×V)→Prop)→Prop
  | [],al,T,K=>∃ T1,Wk n T T1∧K al T1
  | o::rest,al,T,K=>∃ T1,Wk n T T1∧dstOK o.dst n=true ∧
    match o.guard with
    | none=>(z0 o=false∧∃ v,OpV P o (ev T1) H v∧TriQ0 P n ops H rest al (putT T1 o.dst v) K) ∨
      (∃ t r,o.op = .alloc t∧o.dst=some r∧(zb3 P t).isSome=true∧TriQ0 P n ops H rest (al++[(r,t,none)]) (putT T1 (some r) .junk) K) ∨
      (∃ t r y d k,o.op = .store t (.tmp r) y∧o.dst=none∧ev T1 y=some (.d d)∧d.ones=true∧d.shape=k∧zaW P t k=true∧TriQ0 P n ops H rest (al++[(r,t,some d)]) T1 K)
    | some (j,want)=>z0 o=false∧∃ g,(ops[j]?).bind (·.dst)=some g ∧
      ((look g T1=some .undef∧TriQ0 P n ops H rest al (putT T1 o.dst .undef) K) ∨
       (look g T1=some (.d (.bool !want))∧TriQ0 P n ops H rest al (putT T1 o.dst .undef) K) ∨
       (look g T1=some (.d (.bool want))∧∃ v,OpV P o (ev T1) H v∧TriQ0 P n ops H rest al (putT T1 o.dst v) K))
theorem TriQ0.wk {P n ops H} {K:List Ev→List (Nat×V)→Prop} {l al T T'} (hw:Wk n T T') (h:TriQ0 P n ops H l al T' K):TriQ0 P n ops H l al T K:=by
 cases l with
 | nil=>obtain ⟨T1,h1,h2⟩:=h;exact ⟨T1,hw.trans h1,h2⟩
 | cons o rest=>unfold TriQ0 at h ⊢;obtain ⟨T1,h1,h2⟩:=h;exact ⟨T1,hw.trans h1,h2⟩
theorem TriQ0.append {P n ops H} {K:List Ev→List (Nat×V)→Prop} {l2}:∀ (l1:List Oper) (al:List Ev) (T:List (Nat×V)),
  TriQ0 P n ops H l1 al T (λal1 T1=>TriQ0 P n ops H l2 al1 T1 K)→TriQ0 P n ops H (l1++l2) al T K
 | [],al,T,h=>by obtain ⟨T1,h1,h2⟩:=h;exact TriQ0.wk h1 h2
 | o::l1,al,T,h=>by
  simp only [y7];unfold TriQ0 at h ⊢;obtain ⟨T1,hw,hd,h⟩:=h;refine ⟨T1,hw,hd,?_⟩;cases hg:o.guard with
  | none=>
   rw [hg] at h;rcases h with ⟨h0,v,h1,h2⟩ | ⟨t,r,h0,h1,h2,h3⟩ | ⟨t,r,y,d,k,h0,h1,h2,h3,h4,h5,h6⟩
   ·exact .inl ⟨h0,v,h1,TriQ0.append l1 _ _ h2⟩
   ·exact .inr (.inl ⟨t,r,h0,h1,h2,TriQ0.append l1 _ _ h3⟩)
   ·exact .inr (.inr ⟨t,r,y,d,k,h0,h1,h2,h3,h4,h5,TriQ0.append l1 _ _ h6⟩)
  | some jw=>
   rw [hg] at h;obtain ⟨h0,g,h1,h⟩:=h;refine ⟨h0,g,h1,?_⟩;rcases h with ⟨h2,h3⟩ | ⟨h2,h3⟩ | ⟨h2,v,h3,h4⟩
   ·exact .inl ⟨h2,TriQ0.append l1 _ _ h3⟩
   ·exact .inr (.inl ⟨h2,TriQ0.append l1 _ _ h3⟩)
   ·exact .inr (.inr ⟨h2,v,h3,TriQ0.append l1 _ _ h4⟩)
theorem TriQ0.mono {P n ops H} {K K':List Ev→List (Nat×V)→Prop} (hK:∀ al T,K al T→K' al T):∀ (l:List Oper) (al:List Ev) (T:List (Nat×V)),
  TriQ0 P n ops H l al T K→TriQ0 P n ops H l al T K'
 | [],al,T,h=>by obtain ⟨T1,h1,h2⟩:=h;exact ⟨T1,h1,hK _ _ h2⟩
 | o::l1,al,T,h=>by
  unfold TriQ0 at h ⊢;obtain ⟨T1,hw,hd,h⟩:=h;refine ⟨T1,hw,hd,?_⟩;cases hg:o.guard with
  | none=>
   rw [hg] at h;rcases h with ⟨h0,v,h1,h2⟩ | ⟨t,r,h0,h1,h2,h3⟩ | ⟨t,r,y,d,k,h0,h1,h2,h3,h4,h5,h6⟩
   ·exact .inl ⟨h0,v,h1,TriQ0.mono hK l1 _ _ h2⟩
   ·exact .inr (.inl ⟨t,r,h0,h1,h2,TriQ0.mono hK l1 _ _ h3⟩)
   ·exact .inr (.inr ⟨t,r,y,d,k,h0,h1,h2,h3,h4,h5,TriQ0.mono hK l1 _ _ h6⟩)
  | some jw=>
   rw [hg] at h;obtain ⟨h0,g,h1,h⟩:=h;refine ⟨h0,g,h1,?_⟩;rcases h with ⟨h2,h3⟩ | ⟨h2,h3⟩ | ⟨h2,v,h3,h4⟩
   ·exact .inl ⟨h2,TriQ0.mono hK l1 _ _ h3⟩
   ·exact .inr (.inl ⟨h2,TriQ0.mono hK l1 _ _ h3⟩)
   ·exact .inr (.inr ⟨h2,v,h3,TriQ0.mono hK l1 _ _ h4⟩)
def evOf (o:Oper) (v:V):List Ev:=match o.op,o.dst,v with | .alloc t,some r,_=>[(r,t,none)] | .store t (.tmp r) _,_,.d d=>[(r,t,some d)] | _,_,_=>[]
def evsOf (l:List (Oper×V)):List Ev:=l.flatMap λp=>evOf p.1 p.2
def zhr (o:Oper):List (Nat×TypeId):=match o.op,o.dst with | .alloc t,some r=>[(r,t)] | _,_=>[]
def zgM (l:List Oper):List (Nat×TypeId):=l.flatMap zhr
def allocs (es:List Ev):List (Nat×TypeId):=es.filterMap λe=>match e with | (r,t,none)=>some (r,t) | _=>none
def stored:List Ev→Nat→Option D
 | [],_=>none
 | (q,_,some d)::es,r=>if q=r then some d else stored es r
 | (_,_,none)::es,r=>stored es r
theorem zea {o v} (h:z0 o=false):evOf o v=[]:=by
 unfold evOf;unfold z0 at h;cases hop:o.op <;> rw [hop] at h <;> first | rfl | cases h
def dsts (l:List Oper):List Nat:=l.filterMap (·.dst)
theorem zec (T d v t):look t (putT T d v)=if d=some t then some v else look t T:=by
 cases d with
 | none=>simp [putT]
 | some d=>simp only [putT,zbc,yh];by_cases h:t=d <;> simp [h,eq_comm]
def junks:List Nat→List (Nat×V)→List (Nat×V)
 | [],T=>T
 | d::ds,T=>(d,.junk)::junks ds T
theorem look_junks (T t):∀ (ds:List Nat),look t (junks ds T)=if t∈ds then some .junk else look t T
 | []=>by simp [junks]
 | d::ds=>by simp only [junks,zbc,look_junks T t ds,yI];by_cases h:t=d <;> simp [h]
theorem Wk.ev {n T T1} (h:Wk n T T1) {x y} (hx:Go.Proofs.YtbnhmfnagdgcmaaGreatDoor.ev T1 x=some y):Go.Proofs.YtbnhmfnagdgcmaaGreatDoor.ev T x=some y∨y = .junk:=by
 cases x with
 | tmp t=>exact (h t y hx).imp id (·.1)
 | const v=>exact .inl hx
 | func f=>exact .inl hx
 | global g=>exact .inl hx
theorem OpV.wk {P o n T T1 H v} (hw:Wk n T T1) (hv:OpV P o (Go.Proofs.YtbnhmfnagdgcmaaGreatDoor.ev T1) H v):OpV P o (Go.Proofs.YtbnhmfnagdgcmaaGreatDoor.ev T) H v:=
 ⟨λA0 bs w f m hf h1 h2=>hv.run A0 bs w f m (λx hx y hy=>by
  rcases hw.ev hy with h | h
  ·exact hf x hx y h
  ·subst h;simp only [V.rep]) h1 h2⟩
theorem Wk.putT {n T T1} (h:Wk n T T1) (d v):Wk n (Go.Proofs.YtbnhmfnagdgcmaaGreatDoor.putT T d v) (Go.Proofs.YtbnhmfnagdgcmaaGreatDoor.putT T1 d v):=by
 intro t x hx;rw [zec] at hx ⊢;split at hx <;> rename_i e
 ·rw [if_pos e];exact .inl hx
 ·rw [if_neg e];exact h t x hx
theorem zhO {o l t} (h:t∉dsts (o::l)):t∉dsts l∧o.dst≠some t:=by
 simp only [dsts,List.filterMap_cons] at h;cases ho:o.dst with
 | none=>rw [ho] at h;exact ⟨h,by simp⟩
 | some d=>
  rw [ho] at h;simp only [yI,not_or] at h;exact ⟨h.2,by simpa using λe=>h.1 e.symm⟩
theorem TriQ0.strong {P n ops H} {K:List Ev→List (Nat×V)→Prop}:∀ (l:List Oper) (al:List Ev) (T:List (Nat×V)),
  TriQ0 P n ops H l al T K→TriQ0 P n ops H l al T (λal1 T2=>(((∀ o∈l,z0 o=false)→al1=al)∧(∀ t,t∉dsts l→look t T2=look t T))∧∃ T1,Wk n T2 T1∧K al1 T1)
 | [],al,T,h=>by
  obtain ⟨T1,h1,h2⟩:=h;exact ⟨T,Wk.refl _ _,⟨λ_=>rfl,λt _=>rfl⟩,T1,h1,h2⟩
 | o::l,al,T,h=>by
  unfold TriQ0 at h ⊢;obtain ⟨T1,hw,hd,h⟩:=h;refine ⟨T,Wk.refl _ _,hd,?_⟩;have post:∀ (al0:List Ev) (v:V),(z0 o=false→al0=al)→∀ al1 T2,
    ((((∀ o∈l,z0 o=false)→al1=al0)∧(∀ t,t∉dsts l→look t T2=look t (Go.Proofs.YtbnhmfnagdgcmaaGreatDoor.putT T o.dst v)))∧∃ T1,Wk n T2 T1∧K al1 T1) →
    ((((∀ p∈o::l,z0 p=false)→al1=al)∧(∀ t,t∉dsts (o::l)→look t T2=look t T))∧∃ T1,Wk n T2 T1∧K al1 T1):=by
   intro al0 v hal al1 T2 ⟨⟨h1,h3⟩,h4⟩;refine ⟨⟨λhs=>by rw [h1 λp hp=>hs p (by simp [hp]),hal (hs o (by simp))],λt hnd=>?_⟩,h4⟩;obtain ⟨hnl,hne⟩:=zhO hnd;rw [h3 t hnl,zec,if_neg hne]
  cases hg:o.guard with
  | none=>
   rw [hg] at h;rcases h with ⟨h0,v,h1,h2⟩ | ⟨t,r,h0,h1,h2,h3⟩ | ⟨t,r,y,d,k,h0,h1,h2,h3,h4,h5,h6⟩
   ·exact .inl ⟨h0,v,h1.wk hw,TriQ0.mono (post al v (λ_=>rfl)) l _ _ (TriQ0.strong l _ _ (TriQ0.wk (hw.putT _ _) h2))⟩
   ·refine .inr (.inl ⟨t,r,h0,h1,h2,TriQ0.mono ?_ l _ _ (TriQ0.strong l _ _ (TriQ0.wk (hw.putT _ _) h3))⟩);have:=post (al++[(r,t,none)]) .junk (λh=>by simp [z0,h0] at h)
    rwa [h1] at this
   ·have hy:ev T y=some (.d d):=by
     rcases hw.ev h2 with h | h
     ·exact h
     ·cases h
    refine .inr (.inr ⟨t,r,y,d,k,h0,h1,hy,h3,h4,h5,TriQ0.mono ?_ l _ _ (TriQ0.strong l _ _ (TriQ0.wk hw h6))⟩);have:=post (al++[(r,t,some d)]) .junk (λh=>by simp [z0,h0] at h)
    rwa [h1] at this
  | some jw=>
   rw [hg] at h;obtain ⟨h0,g,h1,h⟩:=h;refine ⟨h0,g,h1,?_⟩;have hlk:∀ x,look g T1=some (.d (.val x))→look g T=some (.d (.val x)):=λx hx=>by
    rcases hw g _ hx with h | ⟨h,_⟩
    ·exact h
    ·cases h
   rcases h with ⟨h2,h3⟩ | ⟨h2,h3⟩ | ⟨h2,v,h3,h4⟩
   ·exact .inl ⟨hlk _ h2,TriQ0.mono (post al .undef (λ_=>rfl)) l _ _ (TriQ0.strong l _ _ (TriQ0.wk (hw.putT _ _) h3))⟩
   ·exact .inr (.inl ⟨hlk _ h2,TriQ0.mono (post al .undef (λ_=>rfl)) l _ _ (TriQ0.strong l _ _ (TriQ0.wk (hw.putT _ _) h3))⟩)
   ·exact .inr (.inr ⟨hlk _ h2,v,h3.wk hw,TriQ0.mono (post al v (λ_=>rfl)) l _ _ (TriQ0.strong l _ _ (TriQ0.wk (hw.putT _ _) h4))⟩)
def zfW (ops:Array Oper) (n:Nat) (g:Nat) (want:Bool):List Oper→List Nat→Bool
 | [],_=>true
 | o::l,us=>!z0 o&&dstOK o.dst n&&(match o.guard with
   | some (j,w)=>match (ops[j]?).bind (·.dst) with
    | some g'=>(g'==g&&w==want)||us.contains g'
    | none=>false
   | none=>false)&&!(o.dst==some g)&&zfW ops n g want l (match o.dst with | some d=>d::us | none=>us)
theorem TriQ0.skips {P n ops H} {K:List Ev→List (Nat×V)→Prop} {g want al}:∀ (l:List Oper) (us:List Nat) (T:List (Nat×V)),zfW ops n g want l us=true →
  look g T=some (.d (.bool !want))→(∀ u∈us,look u T=some .undef)→(∀ T',(∀ t,t∉dsts l→look t T'=look t T)→K al T')→TriQ0 P n ops H l al T K
 | [],us,T,_,_,_,hK=>⟨T,Wk.refl _ _,hK T (λ_ _=>rfl)⟩
 | o::l,us,T,h,hg,hu,hK=>by
  simp only [zfW,yc,yw,ub] at h;obtain ⟨⟨⟨⟨h0,h1⟩,h2⟩,h3⟩,h4⟩:=h;unfold TriQ0;refine ⟨T,Wk.refl _ _,h1,?_⟩;have next:TriQ0 P n ops H l al (putT T o.dst .undef) K:=by
   refine TriQ0.skips l _ _ h4 ?_ ?_ ?_
   ·rw [zec,if_neg h3];exact hg
   ·intro u hu';rw [zec];cases ho:o.dst with
    | none=>rw [ho] at hu';simp only [reduceCtorEq,if_false];exact hu u hu'
    | some d=>
     rw [ho] at hu';by_cases hud:d=u
     ·simp [hud]
     ·simp only [yh,hud,if_false];rcases yI.1 hu' with h | h
      ·exact absurd h.symm hud
      ·exact hu u h
   ·intro T' hT2;refine hK T' λt hnd=>?_
    obtain ⟨hnl,hne⟩:=zhO hnd;rw [hT2 t hnl,zec,if_neg hne]
  cases hgd:o.guard with
  | none=>simp [hgd] at h2
  | some jw=>
   obtain ⟨j,w⟩:=jw;simp only [hgd] at h2;cases hj:(ops[j]?).bind (·.dst) with
   | none=>simp [hj] at h2
   | some g'=>
    simp only [hj,yz,yc,beq_iff_eq,List.contains_iff_mem] at h2;refine ⟨h0,g',hj,?_⟩;rcases h2 with ⟨rfl,rfl⟩ | h2
    ·exact .inr (.inl ⟨hg,next⟩)
    ·exact .inl ⟨hu g' h2,next⟩
structure TriQ (P:Program) (n:Nat) (ops:Array Oper) (H:List Blk) (l:List Oper) (al:List Ev) (T:List (Nat×V)) (K:List Ev→List (Nat×V)→Prop):Prop where
 run:TriQ0 P n ops H l al T K
section
variable {P:Program} {n:Nat} {ops:Array Oper} {H:List Blk} {o:Oper} {rest:List Oper} {al:List Ev} {T:List (Nat×V)} {K:List Ev→List (Nat×V)→Prop}
theorem TriQ.nil (h:K al T):TriQ P n ops H [] al T K:=⟨T,Wk.refl _ _,h⟩
theorem TriQ.op {d:Nat} {v:V} (hg:o.guard=none) (hd:o.dst=some d) (hn:Nat.blt d n=true) (ha:z0 o=false) (hv:OpV P o (ev T) H v) (k:TriQ P n ops H rest al ((d,v)::T) K):TriQ P n ops H (o::rest) al T K:=by
 constructor;unfold TriQ0;rw [hg];exact ⟨T,Wk.refl _ _,by rw [hd];exact hn,.inl ⟨ha,v,hv,by rw [hd];exact k.run⟩⟩
theorem TriQ.alloc {t:TypeId} {r:Nat} (hg:o.guard=none) (ho:o.op = .alloc t) (hd:o.dst=some r) (hn:Nat.blt r n=true) (hz:(zb3 P t).isSome=true) (k:TriQ P n ops H rest (al++[(r,t,none)]) ((r,.junk)::T) K):TriQ P n ops H (o::rest) al T K:=by
 constructor;unfold TriQ0;rw [hg];exact ⟨T,Wk.refl _ _,by rw [hd];exact hn,.inr (.inl ⟨t,r,ho,hd,hz,k.run⟩)⟩
theorem TriQ.store {t:TypeId} {r:Nat} {y:Operand} {d:D} {k:Option Nat} (hg:o.guard=none) (ho:o.op = .store t (.tmp r) y) (hd:o.dst=none) (hy:ev T y=some (.d d)) (h1:d.ones=true) (hk:d.shape=k) (hz:zaW P t k=true) (kk:TriQ P n ops H rest (al++[(r,t,some d)]) T K):TriQ P n ops H (o::rest) al T K:=by
 constructor;unfold TriQ0;rw [hg];exact ⟨T,Wk.refl _ _,by rw [hd];rfl,.inr (.inr ⟨t,r,y,d,k,ho,hd,hy,h1,hk,hz,kk.run⟩)⟩
theorem TriQ.gop {d:Nat} {v:V} {j g:Nat} {want:Bool} (hg:o.guard=some (j,want)) (hj:(ops[j]?).bind (·.dst)=some g) (hb:look g T=some (.d (.bool want))) (hd:o.dst=some d) (hn:Nat.blt d n=true) (ha:z0 o=false) (hv:OpV P o (ev T) H v)
  (k:TriQ P n ops H rest al ((d,v)::T) K):TriQ P n ops H (o::rest) al T K:=by
 constructor;unfold TriQ0;rw [hg];exact ⟨T,Wk.refl _ _,by rw [hd];exact hn,ha,g,hj,.inr (.inr ⟨hb,v,hv,by rw [hd];exact k.run⟩)⟩
end
def Runs (ops:Array Oper) (o:Oper) (T:List (Nat×V)):Prop:=
 o.guard=none∨∃ j want g,o.guard=some (j,want)∧(ops[j]?).bind (·.dst)=some g∧look g T=some (.d (.bool want))
theorem TriQ.junction {P n ops H l p rest al T} {K:List Ev→List (Nat×V)→Prop}
  (m:Nat) {want b b2:Bool} {g r d:Nat} {x y:Operand} (hl:l.drop m=p::rest) (hp:p.op = .pick (.tmp g) x y) (hxy:if want then x = .tmp r∧y = .const (.bool false) else x = .const (.bool true)∧y = .tmp r)
  (hb:look g T=some (.d (.bool b))) (hs:zfW ops n g want (l.take m) []=true) (hrun:Runs ops p T) (hgp:∀ j w g',p.guard=some (j,w)→(ops[j]?).bind (·.dst)=some g'→g'∉dsts (l.take m)) (hd:p.dst=some d) (hn:Nat.blt d n=true)
  (h1:b=want→TriQ P n ops H (l.take m) al ((g,.d (.bool want))::T) (λ_ T'=>look r T'=some (.d (.bool b2))))
  (h2:TriQ P n ops H rest al ((d,.d (.bool (if want then b&&b2 else b||b2)))::junks (dsts (l.take m)) T) K):TriQ P n ops H l al T K:=by
 have hl':l=l.take m++p::rest:=by rw [← hl,uB]
 have hpa:z0 p=false:=by simp [z0,hp]
 have hnog:∀ (ll:List Oper) us,zfW ops n g want ll us=true→g∉dsts ll∧(∀ o∈ll,z0 o=false):=by
  intro ll
  induction ll with
  | nil=>intro us _;simp [dsts]
  | cons o ll ih=>
   intro us h;simp only [zfW,yc,yw,ub] at h;obtain ⟨⟨⟨⟨h0,_⟩,_⟩,h3⟩,h4⟩:=h;have:=ih _ h4;refine ⟨?_,?_⟩
   ·simp only [dsts,List.filterMap_cons];cases ho:o.dst with
    | none=>exact this.1
    | some d'=>
     intro hc;rcases yI.1 hc with rfl | hc
     ·exact h3 ho
     ·exact this.1 hc
   ·intro o' ho';rcases yI.1 ho' with rfl | ho'
    ·exact h0
    ·exact this.2 o' ho'
 obtain ⟨hgn,haln⟩:=hnog _ _ hs;have fin:∀ (T1:List (Nat×V)) (c:Bool),(∀ t v,look t T=some v→t∉dsts (l.take m)→look t T1=some v)→(∀ t∈dsts (l.take m),t<n) →
   OpV P p (ev T1) H (.d (.bool c))→c=(if want then b&&b2 else b||b2)→TriQ0 P n ops H (p::rest) al T1 K:=by
  intro T1 c hk hdn hv hc;subst hc;unfold TriQ0;refine ⟨T1,Wk.refl _ _,by rw [hd];exact hn,?_⟩;have wk:Wk n (putT T1 p.dst (.d (.bool (if want then b&&b2 else b||b2)))) ((d,.d (.bool (if want then b&&b2 else b||b2)))::junks (dsts (l.take m)) T):=by
   intro t v hv';rw [zbc] at hv';rw [hd,zec];by_cases ht:t=d
   ·rw [if_pos ht] at hv';rw [if_pos (by rw [ht])];exact .inl hv'
   ·rw [if_neg ht,look_junks] at hv';rw [if_neg (by simpa using λh=>ht h.symm)];split at hv' <;> rename_i hmem
    ·exact .inr ⟨by simpa using hv'.symm,hdn t hmem⟩
    ·exact .inl (hk t v hv' hmem)
  rcases hrun with hg0 | ⟨j,w,g',hg0,hj,hb0⟩
  ·rw [hg0];exact .inl ⟨hpa,_,hv,TriQ0.wk wk h2.run⟩
  ·rw [hg0];exact ⟨hpa,g',hj,.inr (.inr ⟨hk g' _ hb0 (hgp j w g' hg0 hj),_,hv,TriQ0.wk wk h2.run⟩)⟩
 constructor;rw [hl'];refine TriQ0.append _ _ _ ?_;have hdn:∀ (ll:List Oper) us,zfW ops n g want ll us=true→∀ t∈dsts ll,t<n:=by
  intro ll
  induction ll with
  | nil=>intro us _;simp [dsts]
  | cons o ll ih=>
   intro us h;simp only [zfW,yc,yw,ub] at h;obtain ⟨⟨⟨⟨_,h1⟩,_⟩,_⟩,h4⟩:=h;have:=ih _ h4;simp only [dsts,List.filterMap_cons];cases ho:o.dst with
   | none=>exact this
   | some d'=>
    intro t ht;rcases yI.1 ht with rfl | ht
    ·rw [ho] at h1;simpa [dstOK] using h1
    ·exact this t ht
 by_cases hbw:b=want
 ·-- b's operations run
  have hwk:Wk n T ((g,.d (.bool want))::T):=by
   intro t v hv;rw [zbc] at hv;split at hv <;> rename_i e
   ·cases hv;rw [e,← hbw];exact .inl hb
   ·exact .inl hv
  have hsub:∀ t,look t ((g,V.d (.bool want))::T)=look t T:=λt=>by
   rw [zbc];split <;> rename_i e
   ·rw [e,hb,hbw]
   ·rfl
  refine TriQ0.wk hwk (TriQ0.mono ?_ _ _ _ (TriQ0.strong _ _ _ (h1 hbw).run));rintro al1 T1 ⟨⟨hal,hkeep⟩,T2,hw2,hr2⟩;have hr:look r T1=some (.d (.bool b2)):=(hw2 r _ hr2).elim id (λh=>by cases h.1);have hal':al1=al:=hal haln;subst hal';refine fin T1 (if want then b&&b2 else b||b2) (λt v hv hnd=>by rw [hkeep t hnd,hsub];exact hv) (hdn _ _ hs) ?_ rfl;have hgl:look g T1=some (.d (.bool b)):=by rw [hkeep g hgn,hsub];exact hb
  cases want with
  | true=>
   obtain ⟨rfl,rfl⟩:=hxy;subst hbw;exact OpV.pick hp hgl (λ_=>hr) (λh=>(by cases h))
  | false=>
   obtain ⟨rfl,rfl⟩:=hxy;subst hbw;exact OpV.pick hp hgl (λh=>(by cases h)) (λ_=>hr)
 ·-- they are passed over
  have hbn:b = !want:=by revert hbw;cases b <;> cases want <;> simp
  refine TriQ0.skips _ [] T hs (by rw [hb,hbn]) (λu hu=>(by cases hu)) λT1 hk=>?_
  refine fin T1 (if want then b&&b2 else b||b2) (λt v hv hnd=>by rw [hk t hnd];exact hv) (hdn _ _ hs) ?_ rfl;have hgl:look g T1=some (.d (.bool b)):=by rw [hk g hgn];exact hb
  cases want with
  | true=>
   obtain ⟨rfl,rfl⟩:=hxy;subst hbn;exact OpV.pick hp hgl (λh=>(by cases h)) (λ_=>rfl)
  | false=>
   obtain ⟨rfl,rfl⟩:=hxy;subst hbn;exact OpV.pick hp hgl (λ_=>rfl) (λh=>(by cases h))
def YV (P:Program) (n:Nat) (ops:Array Oper) (H:List Blk) (o:Oper) (T:List (Nat×V)) (v:V):Prop:=
  dstOK o.dst n=true ∧
  ((z0 o=false∧o.guard=none∧OpV P o (ev T) H v) ∨
   (o.guard=none∧(∃ t r,o.op = .alloc t∧o.dst=some r∧(zb3 P t).isSome=true)∧v = .junk) ∨
   (z0 o=false∧∃ j want g,o.guard=some (j,want)∧(ops[j]?).bind (·.dst)=some g ∧
    ((look g T=some (.d (.bool want))∧OpV P o (ev T) H v) ∨
     ((look g T=some .undef∨look g T=some (.d (.bool !want)))∧v = .undef))) ∨
   (o.guard=none∧∃ t r y d k,o.op = .store t (.tmp r) y∧o.dst=none∧ev T y=some (.d d)∧d.ones=true∧d.shape=k∧zaW P t k=true∧v = .d d))
theorem OpV.congr {P o e e' H v} (h:∀ x∈o.op.operands,e x=e' x) (hv:OpV P o e H v):OpV P o e' H v:=
 ⟨λA0 bs w f m hf h1 h2=>hv.run A0 bs w f m (λx hx y hy=>hf x hx y (by rw [← h x hx];exact hy)) h1 h2⟩
theorem YV.congr {P:Program} {n:Nat} {ops:Array Oper} {H:List Blk} {o:Oper} {T T':List (Nat×V)} {v:V} (h:∀ t∈o.looksAt ops,look t T=look t T') (hy:YV P n ops H o T v):YV P n ops H o T' v:=by
 have hop:∀ x∈o.op.operands,ev T x=ev T' x:=by
  intro x hx;cases x with
  | tmp t=>simp only [ev];exact h t (by simp only [Oper.looksAt,yK,List.mem_filterMap];left;exact ⟨.tmp t,by simpa using hx,rfl⟩)
  | _=>rfl
 obtain ⟨hd,hy⟩:=hy;refine ⟨hd,?_⟩;rcases hy with ⟨ha,hg,hv⟩ | ⟨hg,h1,h2⟩ | ⟨ha,j,want,g,hg,hj,hy⟩ | ⟨hg,t,r,y,d,k,h0,h1,h2,h3⟩
 ·exact .inl ⟨ha,hg,hv.congr hop⟩
 ·exact .inr (.inl ⟨hg,h1,h2⟩)
 ·have hgl:look g T=look g T':=h g (by simp only [Oper.looksAt,hg,hj,yK];right;simp);refine .inr (.inr (.inl ⟨ha,j,want,g,hg,hj,?_⟩));rw [← hgl];rcases hy with ⟨h1,h2⟩ | h1
  ·exact .inl ⟨h1,h2.congr hop⟩
  ·exact .inr h1
 ·exact .inr (.inr (.inr ⟨hg,t,r,y,d,k,h0,h1,by rw [← hop y (by simp [h0,Op.operands])];exact h2,h3⟩))
def TL (T:List (Nat×V)) (ps:List (Oper×V)) (p:Nat→Bool):Nat→List (Nat×V)
 | 0=>T
 | m+1=>match ps[m]? with
  | some (o,v)=>if p m then putT (TL T ps p m) o.dst v else TL T ps p m
  | none=>TL T ps p m
theorem zda (T d v t):look t (putT T d v)=if d=some t then some v else look t T:=by
 cases d with
 | none=>simp [putT]
 | some d=>simp only [putT,zbc,yh];by_cases h:t=d <;> simp [h,eq_comm]
theorem zdE {T ps p p' t} (h:∀ i o v,ps[i]? = some (o,v)→o.dst=some t→p i=p' i):∀ m,look t (TL T ps p m)=look t (TL T ps p' m)
 | 0=>rfl
 | m+1=>by
  have ih:=zdE (T:=T) h m;simp only [TL];cases hm:ps[m]? with
  | none=>exact ih
  | some ov=>
   obtain ⟨o,v⟩:=ov;simp only;by_cases hd:o.dst=some t
   ·rw [h m o v hm hd];split
    ·rw [zda,zda,if_pos hd,if_pos hd]
    ·exact ih
   ·split <;> split <;> simp [zda,hd,ih]
theorem zef {T ps p m} (h:∀ i,m≤i→p i=false):∀ k,TL T ps p (m+k)=TL T ps p m
 | 0=>rfl
 | k+1=>by
  show TL T ps p (m+k+1)=_;simp only [TL,h (m+k) (by omega),ye,if_false,zef h k];split <;> rfl
theorem TriQ0.path {P n ops H} {K:List Ev→List (Nat×V)→Prop} {T0}:∀ (l:List Oper) (al:List Ev) (T:List (Nat×V)) (ps:List (Oper×V)),
  (∀ t,look t T=look t (TL T0 ps (λ_=>true) ps.length))→TriQ0 P n ops H l al T K →
  ∃ qs:List (Oper×V),qs.map (·.1)=l∧(∀ i o v,qs[i]? = some (o,v)→YV P n ops H o (TL T0 (ps++qs) (λk=>decide (k<ps.length+i)) (ps++qs).length) v) ∧
   ∃ T',K (al++evsOf qs) T'∧Wk n (TL T0 (ps++qs) (λ_=>true) (ps++qs).length) T'
 | [],al,T,ps,hT,h=>by
  obtain ⟨T1,h1,h2⟩:=h;refine ⟨[],rfl,by simp,T1,by simpa [evsOf] using h2,λt v hv=>?_⟩;have:=h1 t v hv;rw [hT] at this;simpa using this
 | o::l,al,T,ps,hT,h=>by
  have step:∀ (al1:List Ev) (v:V),al1=al++evOf o v→YV P n ops H o T v→TriQ0 P n ops H l al1 (putT T o.dst v) K →
    ∃ qs:List (Oper×V),qs.map (·.1)=o::l∧(∀ i o v,qs[i]? = some (o,v)→YV P n ops H o (TL T0 (ps++qs) (λk=>decide (k<ps.length+i)) (ps++qs).length) v) ∧
     ∃ T',K (al++evsOf qs) T'∧Wk n (TL T0 (ps++qs) (λ_=>true) (ps++qs).length) T':=by
   intro al1 v hal hy hk;have hT':∀ t,look t (putT T o.dst v)=look t (TL T0 (ps++[(o,v)]) (λ_=>true) (ps++[(o,v)]).length):=by
    intro t;have e1:∀ m,m≤ps.length→TL T0 (ps++[(o,v)]) (λ_=>true) m=TL T0 ps (λ_=>true) m:=by
     intro m
     induction m with
     | zero=>intro _;rfl
     | succ m ih=>intro hm;simp only [TL,yg (show m<ps.length by omega),ih (by omega)]
    simp only [yG,yJ,uz,uq,TL,List.getElem?_concat_length,if_true,e1 ps.length (yn _)];rw [zda,zda,hT]
   obtain ⟨qs,hq1,hq2,T',hK,hq3⟩:=TriQ0.path l al1 _ (ps++[(o,v)]) hT' hk;refine ⟨(o,v)::qs,by simp [hq1],?_,T',by rw [hal] at hK;simpa [evsOf] using hK,by simpa [yB] using hq3⟩;intro i o' v' hi;cases i with
   | zero=>
    simp only [y6,yh,yx] at hi;obtain ⟨rfl,rfl⟩:=hi;refine hy.congr λt _=>?_
    rw [hT];have e2:TL T0 (ps++(o,v)::qs) (λk=>decide (k<ps.length+0)) (ps++(o,v)::qs).length=TL T0 (ps++(o,v)::qs) (λk=>decide (k<ps.length+0)) ps.length:=by
     have:=zef (T:=T0) (ps:=ps++(o,v)::qs) (p:=λk=>decide (k<ps.length+0)) (m:=ps.length) (λi hi=>by simp;omega) ((o,v)::qs).length;simpa using this
    rw [e2];have e1:∀ m,m≤ps.length→TL T0 (ps++(o,v)::qs) (λk=>decide (k<ps.length+0)) m=TL T0 ps (λ_=>true) m:=by
     intro m
     induction m with
     | zero=>intro _;rfl
     | succ m ih=>intro hm;simp only [TL,yg (show m<ps.length by omega),ih (by omega),show m<ps.length+0 by omega,decide_true]
    rw [e1 ps.length (yn _)]
   | succ i=>
    have:=hq2 i o' v' (by simpa using hi);simpa [yB,Nat.add_assoc,Nat.add_comm 1 i] using this
  unfold TriQ0 at h;obtain ⟨T1,hw,hd,h⟩:=h;cases hg:o.guard with
  | none=>
   rw [hg] at h;rcases h with ⟨h0,v,hv,hk⟩ | ⟨t,r,h0,h1,h2,h3⟩ | ⟨t,r,y,d,k,h0,h1,h2,h3,h4,h5,h6⟩
   ·exact step al v (by rw [zea h0];simp) ⟨hd,.inl ⟨h0,hg,hv.wk hw⟩⟩ (TriQ0.wk (hw.putT _ _) hk)
   ·refine step (al++[(r,t,none)]) .junk (by simp [evOf,h0,h1]) ⟨hd,.inr (.inl ⟨hg,⟨t,r,h0,h1,h2⟩,rfl⟩)⟩ ?_;rw [h1];exact TriQ0.wk (hw.putT _ _) h3
   ·have hy:ev T y=some (.d d):=by
     rcases hw.ev h2 with h | h
     ·exact h
     ·cases h
    refine step (al++[(r,t,some d)]) (.d d) (by simp [evOf,h0]) ⟨hd,.inr (.inr (.inr ⟨hg,t,r,y,d,k,h0,h1,hy,h3,h4,h5,rfl⟩))⟩ ?_;rw [h1];exact TriQ0.wk hw h6
  | some jw=>
   obtain ⟨j,want⟩:=jw;rw [hg] at h;obtain ⟨h0,g,hj,h⟩:=h;have hlk:∀ x,look g T1=some (.d (.val x))→look g T=some (.d (.val x)):=λx hx=>by
    rcases hw g _ hx with h | ⟨h,_⟩
    ·exact h
    ·cases h
   rcases h with ⟨h2,h3⟩ | ⟨h2,h3⟩ | ⟨h2,v,h3,h4⟩
   ·exact step al .undef (by rw [zea h0];simp) ⟨hd,.inr (.inr (.inl ⟨h0,j,want,g,hg,hj,.inr ⟨.inl (hlk _ h2),rfl⟩⟩))⟩ (TriQ0.wk (hw.putT _ _) h3)
   ·exact step al .undef (by rw [zea h0];simp) ⟨hd,.inr (.inr (.inl ⟨h0,j,want,g,hg,hj,.inr ⟨.inr (hlk _ h2),rfl⟩⟩))⟩ (TriQ0.wk (hw.putT _ _) h3)
   ·exact step al v (by rw [zea h0];simp) ⟨hd,.inr (.inr (.inl ⟨h0,j,want,g,hg,hj,.inl ⟨hlk _ h2,h3.wk hw⟩⟩))⟩ (TriQ0.wk (hw.putT _ _) h4)
def maskOf (M:List Nat) (o:Oper):Nat:=o.after.toList.foldl (λm e=>if Region.binds .any e then m ||| 2 ^ e.on ||| M.getD e.on 0 else m) 0
def masks:List Oper→List Nat→List Nat
 | [],M=>M
 | o::l,M=>masks l (M++[maskOf M o])
def regOKF (l:List Oper) (n:Nat) (L0:List Nat):Bool:=
 let M:=masks l []
 (List.range l.length).all λj=>match l[j]? with
  | none=>false
  | some oj=>M.getD j 0==maskOf M oj&&oj.after.toList.all (λe=>!Region.binds .any e||decide (e.on<j)) &&
   (List.range j).all λi=>(M.getD j 0).testBit i||((decide (j<n)||(L0.contains i&&decide (i<n)))&&match l[i]? with | none=>false | some oi=>oi.apart l.toArray oj)
def regOK (l:List Oper) (n:Nat):Bool:=regOKF l n []
theorem zgJ (M:List Nat) (i:Nat):∀ (es:List Edge) (m:Nat),(es.foldl (λm e=>if Region.binds .any e then m ||| 2 ^ e.on ||| M.getD e.on 0 else m) m).testBit i=true →
  m.testBit i=true∨∃ e∈es,Region.binds .any e=true∧(i=e.on∨(M.getD e.on 0).testBit i=true)
 | [],m,h=>.inl h
 | e::es,m,h=>by
  rcases zgJ M i es _ h with h | ⟨e',he,h⟩
  ·by_cases hb:Region.binds .any e=true
   ·simp only [if_pos hb] at h;simp only [Nat.testBit_or,yz,Nat.testBit_two_pow,yd] at h;rcases h with (h | h) | h
    ·exact .inl h
    ·exact .inr ⟨e,by simp,hb,.inl h.symm⟩
    ·exact .inr ⟨e,by simp,hb,.inr h⟩
   ·simp only [if_neg hb] at h;exact .inl h
  ·exact .inr ⟨e',by simp [he],h⟩
structure RegOK (l:List Oper) (n:Nat) (M L0:List Nat):Prop where
 mask:∀ j o,l[j]? = some o→M.getD j 0=maskOf M o
 back:∀ j o,l[j]? = some o→∀ e∈o.after.toList,Region.binds .any e=true→e.on<j
 pair:∀ i j oi oj,i<j→l[i]? = some oi→l[j]? = some oj→(M.getD j 0).testBit i=true∨oi.apart l.toArray oj=true
 late:∀ i j oj,i<j→n≤j→l[j]? = some oj→(M.getD j 0).testBit i=true∨(i∈L0∧i<n)
theorem ziP {l n L0} (h:regOKF l n L0=true):∃ M,RegOK l n M L0:=by
 refine ⟨masks l [],?_⟩;have key:∀ j oj,l[j]? = some oj→((masks l []).getD j 0==maskOf (masks l []) oj)=true∧oj.after.toList.all (λe=>!Region.binds .any e||decide (e.on<j))=true ∧
   ∀ i,i<j→((masks l []).getD j 0).testBit i=true∨((j<n∨(i∈L0∧i<n))∧∃ oi,l[i]? = some oi∧oi.apart l.toArray oj=true):=by
  intro j oj hj;have hlt:=(yb.1 hj).1;have:=(yo.1 h) j (yX.2 hlt);simp only [hj,yc] at this;refine ⟨this.1.1,this.1.2,λi hi=>?_⟩;have:=(yo.1 this.2) i (yX.2 hi);simp only [yz,yc,yd,List.contains_iff_mem] at this;rcases this with h | ⟨h1,h2⟩
  ·exact .inl h
  ·cases hoi:l[i]? with
   | none=>simp [hoi] at h2
   | some oi=>rw [hoi] at h2;exact .inr ⟨h1,oi,rfl,h2⟩
 refine ⟨λj o hj=>by simpa using (key j o hj).1,λj o hj e he hb=>?_,λi j oi oj hij hi hj=>?_,λi j oj hij hn hj=>?_⟩
 ·have:=(yo.1 (key j o hj).2.1) e he;simpa [hb] using this
 ·rcases (key j oj hj).2.2 i hij with h | ⟨_,oi',h1,h2⟩
  ·exact .inl h
  ·rw [hi] at h1;cases h1;exact .inr h2
 ·rcases (key j oj hj).2.2 i hij with h | ⟨h1,_⟩
  ·exact .inl h
  ·exact h1.elim (λh=>by omega) .inr
theorem mask_lt {l} {n:Nat} {M L0:List Nat} (ok:RegOK l n M L0):∀ (j:Nat) (o:Oper),l[j]? = some o→∀ i,(M.getD j 0).testBit i=true→i<j:=by
 intro j
 induction j using Nat.strongRecOn with
 | _ j ih=>
  intro o ho i hi;rw [ok.mask j o ho] at hi;rcases zgJ M i _ _ hi with h | ⟨e,he,hb,h⟩
  ·simp at h
  ·have hlt:=ok.back j o ho e he hb;rcases h with rfl | h
   ·exact hlt
   ·have hjl:=(yb.1 ho).1;have:=ih e.on hlt _ (yA (by omega)) i h;omega
def Closed (l:List Oper) (M:List Nat) (listed:Array Bool):Prop:=∀ j,j<l.length→listed.getD j false=true→∀ i,(M.getD j 0).testBit i=true→listed.getD i false=true
theorem zeQ {l} {n:Nat} {M L0:List Nat} (ok:RegOK l n M L0) {listed:Array Bool} (hc:Closed l M listed) {j:Nat} {o} (hj:l[j]? = some o)
  (hr:∀ e∈o.after.toList,Region.binds .any e=true→listed.getD e.on false=true):∀ i,(M.getD j 0).testBit i=true→listed.getD i false=true:=by
 intro i hi;rw [ok.mask j o hj] at hi;rcases zgJ M i _ _ hi with h | ⟨e,he,hb,h⟩
 ·simp at h
 ·rcases h with rfl | h
  ·exact hr e he hb
  ·have hlt:=ok.back j o hj e he hb;have:=(yb.1 hj).1;exact hc e.on (by omega) (hr e he hb) i h
theorem zfc {l:List Oper} {listed:Array Bool} {i:Nat}:i∈Region.ready .any l.toArray listed↔∃ o,l[i]? = some o∧listed.getD i true=false∧∀ e∈o.after.toList,Region.binds .any e=true→listed.getD e.on false=true:=by
 simp only [Region.ready,List.mem_filter,yX,yc,yw,uF,List.getElem?_toArray];constructor
 ·rintro ⟨hlt,h1,h2⟩;rw [yA hlt] at h2 ⊢;refine ⟨l[i],rfl,h1,λe he hb=>?_⟩;simp only [yT,yf,Array.all_eq_true_iff_forall_mem] at h2;have:=h2 e (by simpa using he);simpa [hb] using this
 ·rintro ⟨o,ho,h1,h2⟩;have hlt:=(yb.1 ho).1;refine ⟨hlt,h1,?_⟩;rw [ho];simp only [yT,yf,Array.all_eq_true_iff_forall_mem];intro e he;by_cases hb:Region.binds .any e=true
  ·simpa [hb] using h2 e (by simpa using he) hb
  ·simp [hb]
theorem zZ (a:Array Bool) (i t:Nat) (d:Bool) (hi:i<a.size):(a.setIfInBounds i true).getD t d=if t=i then true else a.getD t d:=by
 simp only [yP,Array.getElem?_setIfInBounds];by_cases h:i=t
 ·subst h;simp [hi]
 ·have h':t≠i:=λe=>h e.symm
  simp [h,h']
theorem zbJ (a:Array Bool) (t:Nat) (ht:t<a.size):a.getD t true=a.getD t false:=by
 simp [yP,ht]
def Ctx.plus (C:Ctx) (F:Nat→Option Nat):Ctx:={ C with A0:=λb=>C.A0 b∨∃ i,F i=some b }
structure Fresh (P:Program) (C:Ctx) (bs:List (Option Nat)) (ps:List (Oper×V)) (listed:Nat→Bool) (F:Nat→Option Nat) (a:Act) (w:World):Prop where
 dom:∀ (i b:Nat),F i=some b→listed i=true∧∃ o v t r,ps[i]? = some (o,v)∧o.op = .alloc t∧o.dst=some r
 has:∀ (i:Nat) (o:Oper) (v:V) (t:TypeId) (r:Nat),ps[i]? = some (o,v)→o.op = .alloc t→o.dst=some r→listed i=true→∃ b z c,F i=some b∧zb3 P t=some z∧a.tmps.getD r Go.undef = .pointer (some ⟨b,0,none⟩)∧w.heap[b]? = some (.cells c t (0,0)) ∧
  (∀ j o' d t' y,ps[j]? = some (o',.d d)→o'.op = .store t' (.tmp r) y→listed j=true→∃ u:Value,c=u.cells∧D.rep (Own (C.plus F).A0 bs) w d u) ∧
  ((∀ j o' v' t' y,ps[j]? = some (o',v')→o'.op = .store t' (.tmp r) y→listed j=false)→c=z.cells)
 inj:∀ (i j b:Nat),F i=some b→F j=some b→i=j
 lo:∀ (i b:Nat),F i=some b→C.w0.heap.size≤b∧b<w.heap.size
def zf3 (l:List Oper):Bool:=
 (List.range l.length).all λi=>match l[i]? with
  | some o=>!zfz o||(List.range l.length).all λk=>k==i||match l[k]? with
   | some o'=>!(o'.dst==o.dst)
   | none=>true
  | none=>true
theorem allocOK_spec {l} (h:zf3 l=true):∀ (i k:Nat) (o o':Oper),l[i]? = some o→l[k]? = some o'→zfz o=true→k≠i→o'.dst≠o.dst:=by
 intro i k o o' hi hk ha hne;have:=(yo.1 h) i (yX.2 (yb.1 hi).1);simp only [hi,ha,uf,ut] at this;have:=(yo.1 this) k (yX.2 (yb.1 hk).1);simp only [hk,yz,beq_iff_eq,yw,ub] at this;exact this.resolve_left hne
def zeU (l:List Oper):Bool:=
 (List.range l.length).all λi=>match l[i]? with
  | some o=>match o.op with
   | .store t (.tmp r) _=>((List.range i).any λk=>match l[k]? with
     | some o'=>(match o'.op with | .alloc t'=>t'==t | _=>false)&&o'.dst==some r
     | none=>false)&&((List.range l.length).all λk=>k==i||match l[k]? with
     | some o'=>match o'.op with | .store _ (.tmp r') _=>!(r'==r) | _=>true
     | none=>true)
   | _=>true
  | none=>true
theorem zim {l} (h:zeU l=true):∀ (i:Nat) (o:Oper) (t:TypeId) (r:Nat) (y:Operand),l[i]? = some o→o.op = .store t (.tmp r) y →
  (∃ k o',k<i∧l[k]? = some o'∧o'.op = .alloc t∧o'.dst=some r)∧∀ k o' t' y',l[k]? = some o'→o'.op = .store t' (.tmp r) y'→k=i:=by
 intro i o t r y hi ho;have:=(yo.1 h) i (yX.2 (yb.1 hi).1);simp only [hi,ho,yc] at this;obtain ⟨h1,h2⟩:=this;constructor
 ·obtain ⟨k,hk,h3⟩:=uv.1 h1;cases hlk:l[k]? with
  | none=>simp [hlk] at h3
  | some o'=>
   simp only [hlk,yc,beq_iff_eq] at h3;refine ⟨k,o',yX.1 hk,hlk,?_,h3.2⟩;have h4:=h3.1;cases hop:o'.op <;> rw [hop] at h4 <;> first | cases h4 | skip
   simp only [beq_iff_eq] at h4;rw [h4]
 ·intro k o' t' y' hk ho';have:=(yo.1 h2) k (yX.2 (yb.1 hk).1);simp only [hk,ho',yz,beq_iff_eq,beq_self_eq_true,uf,ye,or_false] at this;exact this
theorem R.own_more {C A bs s a w w'} (h:R C bs s a w) (hf:Fr zd w w') (hsub:∀ b,b<w.heap.size→A b→C.A0 b) (hlt:∀ b,A b→b<w'.heap.size) :
  R { C with A0:=A } bs s a w':=by
 have hA:∀ b,b<w.heap.size→Own A bs b→Own C.A0 bs b:=λb hb hb'=>hb'.imp (hsub b hb) id
 refine ⟨⟨h.own.apart,λb hb hA'=>h.own.not b hb (hsub b (h.own.lt b hb) hA'),λb hb=>yL (h.own.lt b hb) hf.size,hlt,h.own.glob.fr hf (λ_ x=>x.elim) hA⟩,h.len,λi k hk=>Blk.rep_sub hf hA i k (h.blk i k hk),λt v hv=>⟨(h.tmp t v hv).1,V.rep_sub hf hA v _ (h.tmp t v hv).2⟩,h.defers,h.size,
  h.fr.trans (hf.mono λ_ _ x=>x.elim),h.new,λp hp=>⟨(h.gh p hp).1,V.rep_sub hf hA p.1 _ (h.gh p hp).2⟩⟩
mutual
theorem V.rep_snoc {A A' w bs H c k} (hl:bs.length=H.length) (hA:∀ b,b<w.heap.size→A' b→A b):∀ (x:V) (v:Value),V.rep A w bs H x v→V.rep A' w (bs++[c]) (H++[k]) x v
 | .d x,v,hv=>by simp only [V.rep] at hv ⊢;exact D.rep_fr (Fr.refl zd w) (λ_ x=>x.elim) hA x v hv
 | .loc i off,v,hv=>by
  simp only [V.rep] at hv ⊢;split at hv
  ·rename_i t cs he;rw [yg (yb.1 he).1,he];obtain ⟨b,h1,h2⟩:=hv;exact ⟨b,by rw [yg (yb.1 h1).1];exact h1,h2⟩
  ·rename_i he;rw [yg (yb.1 he).1,he];trivial
  ·exact hv.elim
 | .vec i n,v,hv=>by
  simp only [V.rep] at hv ⊢;split at hv
  ·rename_i t k' xs he;have hi:=(yb.1 he).1;rw [yg hi,he];refine ⟨hv.1,λhn=>?_⟩;obtain ⟨cells,h1,h2,h3⟩:=hv.2 hn;exact ⟨cells,h1,by rw [yg (by omega)];exact h2,D.flat_fr (Fr.refl zd w) (λ_ x=>x.elim) hA xs cells h3⟩
  ·rename_i he;rw [yg (yb.1 he).1,he];trivial
  ·exact hv.elim
 | .el i n j off,v,hv=>by
  simp only [V.rep] at hv ⊢;split at hv
  ·rename_i t k' xs he;have hi:=(yb.1 he).1;rw [yg hi,he];refine ⟨hv.1,λhn=>?_⟩;obtain ⟨hdr,cells,h1,h2,h3,h4⟩:=hv.2 hn;exact ⟨hdr,cells,h1,by rw [yg (by omega)];exact h2,D.flat_fr (Fr.refl zd w) (λ_ x=>x.elim) hA xs cells h3,h4⟩
  ·rename_i he;rw [yg (yb.1 he).1,he];trivial
  ·exact hv.elim
 | .sub i n lo hi,v,hv=>by
  simp only [V.rep] at hv ⊢;split at hv
  ·rename_i t k' xs he;have hi:=(yb.1 he).1;rw [yg hi,he];refine ⟨hv.1,λhn=>?_⟩;obtain ⟨hdr,cells,h1,h2,h3,h4⟩:=hv.2 hn;exact ⟨hdr,cells,h1,by rw [yg (by omega)];exact h2,D.flat_fr (Fr.refl zd w) (λ_ x=>x.elim) hA xs cells h3,h4⟩
  ·rename_i he;rw [yg (yb.1 he).1,he];trivial
  ·exact hv.elim
 | .arr i off n,v,hv=>by
  simp only [V.rep] at hv ⊢;split at hv
  ·rename_i t k' xs he;rw [yg (yb.1 he).1,he];obtain ⟨b,h1,h2⟩:=hv;exact ⟨b,by rw [yg (yb.1 h1).1];exact h1,h2⟩
  ·rename_i he;rw [yg (yb.1 he).1,he];trivial
  ·exact hv.elim
 | .agg cs,v,hv=>by
  simp only [V.rep] at hv ⊢;obtain ⟨vs,e,hr⟩:=hv;exact ⟨vs,e,V.reps_snoc hl hA cs _ hr⟩
 | .tup cs,v,hv=>by
  simp only [V.rep] at hv ⊢;obtain ⟨vs,e,hr⟩:=hv;exact ⟨vs,e,V.reps_snoc hl hA cs _ hr⟩
 | .fn f fs cs,v,hv=>by
  simp only [V.rep] at hv ⊢;obtain ⟨vs,us,e,h1,h2⟩:=hv;exact ⟨vs,us,e,V.reps_snoc hl hA fs _ h1,V.reps_snoc hl hA cs _ h2⟩
 | .mp i,v,hv=>by
  simp only [V.rep] at hv ⊢;split at hv
  ·rename_i bo ks ds cl he;rw [yg (yb.1 he).1,he];obtain ⟨b,h1,h2⟩:=hv;exact ⟨b,by rw [yg (yb.1 h1).1];exact h1,h2⟩
  ·rename_i he;rw [yg (yb.1 he).1,he];trivial
  ·exact hv.elim
 | .itp i,v,hv=>by
  simp only [V.rep] at hv ⊢;split at hv
  ·rename_i j si se la he;rw [yg (yb.1 he).1,he];obtain ⟨b,h1,h2⟩:=hv;exact ⟨b,by rw [yg (yb.1 h1).1];exact h1,h2⟩
  ·rename_i he;rw [yg (yb.1 he).1,he];obtain ⟨b,h1,h2⟩:=hv;exact ⟨b,by rw [yg (yb.1 h1).1];exact h1,h2⟩
  ·rename_i he;rw [yg (yb.1 he).1,he];trivial
  ·exact hv.elim
 | .que i m,v,hv=>by
  simp only [V.rep] at hv ⊢;split at hv
  ·rename_i s t k' xs he;rw [yg (yb.1 he).1,he];refine ⟨hv.1,λhn=>?_⟩;obtain ⟨b,o,cap,h1,h2,h3⟩:=hv.2 hn;exact ⟨b,o,cap,by rw [yg (yb.1 h1).1];exact h1,h2,h3.fr (Fr.refl zd w) (λx=>x) (λ_ x=>x.elim) hA⟩
  ·rename_i he;rw [yg (yb.1 he).1,he];trivial
  ·exact hv.elim
 | .qel i m j,v,hv=>by
  simp only [V.rep] at hv ⊢;split at hv
  ·rename_i s t k' xs he;rw [yg (yb.1 he).1,he];refine ⟨hv.1,λhn=>?_⟩;obtain ⟨b,o,cap,h1,h2,hj,h3⟩:=hv.2 hn;exact ⟨b,o,cap,by rw [yg (yb.1 h1).1];exact h1,h2,hj,h3.fr (Fr.refl zd w) (λx=>x) (λ_ x=>x.elim) hA⟩
  ·rename_i he;rw [yg (yb.1 he).1,he];trivial
  ·exact hv.elim
 | .junk,_,_=>by simp only [V.rep]
theorem V.reps_snoc {A A' w bs H c k} (hl:bs.length=H.length) (hA:∀ b,b<w.heap.size→A' b→A b):∀ (xs:List V) (vs:List Value),V.reps A w bs H xs vs→V.reps A' w (bs++[c]) (H++[k]) xs vs
 | [],vs,hv=>by simpa only [V.reps] using hv
 | x::xs,vs,hv=>by
  simp only [V.reps] at hv ⊢;obtain ⟨v,vs',e,h1,h2⟩:=hv;exact ⟨v,vs',e,V.rep_snoc hl hA x v h1,V.reps_snoc hl hA xs vs' h2⟩
end
theorem Blk.rep_snoc {A A' w bs H} {c:Option Nat} {k} (hl:bs.length=H.length) (hA:∀ b,b<w.heap.size→A' b→A b) (i:Nat) (x:Blk) (hx:x.rep A w bs H i):x.rep A' w (bs++[c]) (H++[k]) i:=by
 cases x with
 | box t cs=>
  simp only [Blk.rep] at hx ⊢;obtain ⟨b,vs,h1,h2,h3⟩:=hx;exact ⟨b,vs,by rw [yg (yb.1 h1).1];exact h1,h2,V.reps_snoc hl hA cs _ h3⟩
 | arr t k xs=>
  simp only [Blk.rep] at hx ⊢;obtain ⟨b,vs,h1,h2,h3⟩:=hx;exact ⟨b,vs,by rw [yg (yb.1 h1).1];exact h1,h2,D.flat_fr (Fr.refl zd w) (λ_ x=>x.elim) hA xs _ h3⟩
 | mp bo ks ds clock=>
  simp only [Blk.rep] at hx ⊢;obtain ⟨b,es,h1,h2,h3,h4,h5⟩:=hx;exact ⟨b,es,by rw [yg (yb.1 h1).1];exact h1,h2,h3,h4,D.reps_fr (Fr.refl zd w) (λ_ x=>x.elim) hA ds _ h5⟩
 | it j since seen last=>
  simp only [Blk.rep] at hx ⊢;split at hx
  ·rename_i bo ks ds cl he;rw [yg (yb.1 he).1,he];obtain ⟨b,m,h1,h2,h3⟩:=hx;exact ⟨b,m,by rw [yg (yb.1 h1).1];exact h1,by rw [yg (yb.1 h2).1];exact h2,h3⟩
  ·rename_i he;rw [yg (yb.1 he).1,he];trivial
  ·exact hx.elim
 | itd bo ks ds clock since seen last=>
  simp only [Blk.rep] at hx ⊢;obtain ⟨b,mb,es,h1,h2,h3,h4,h5,h6,h7,h8⟩:=hx;exact ⟨b,mb,es,by rw [yg (yb.1 h1).1];exact h1,λe=>h2 (hA mb h3 e),h3,h4,h5,h6,D.reps_fr (Fr.refl zd w) (λ_ x=>x.elim) hA ds _ h7,h8⟩
 | vec t k xs=>trivial
 | que s t k xs=>trivial
 | dead=>trivial
theorem R.adopt {C:Ctx} {A:Nat→Prop} {bs:List (Option Nat)} {s:St} {a:Act} {w:World} {b:Nat} {t:TypeId} {cs:List V} {vs:Array Value} (h:R { C with A0:=λc=>A c∨c=b } bs s a w) (hb:w.heap[b]? = some (.cells vs t (0,0))) (hA:¬ A b)
  (hlo:C.w0.heap.size≤b) (hcs:V.reps (Own (λc=>A c∨c=b) bs) w bs s.H cs vs.toList) :
  R { C with A0:=A } (bs++[some b]) ⟨s.T,s.H++[.box t cs]⟩ a w:=by
 have hbl:=(ym.1 hb).1;have hnb:some b∉bs:=λhc=>h.own.not b hc (.inr rfl)
 have hsub:∀ c,c<w.heap.size→Own A (bs++[some b]) c→Own (λc=>A c∨c=b) bs c:=λc _ hc=>by
  rcases hc with hc | hc
  ·exact .inl (.inl hc)
  ·rcases yK.1 hc with hc | hc
   ·exact .inr hc
   ·simp only [yO,yh] at hc;exact .inl (.inr hc)
 have hlen:=h.len;refine ⟨⟨λi j c hi hj=>?_,λc hc=>?_,λc hc=>?_,λc hc=>h.own.foreign c (.inl hc),h.own.glob.fr (Fr.refl zd w) (λ_ x=>x.elim) hsub⟩,by simp [hlen],λi k hk=>?_,λu v hv=>⟨(h.tmp u v hv).1,V.rep_snoc hlen hsub v _ (h.tmp u v hv).2⟩,h.defers,h.size,h.fr,λc hc=>?_,λp hp=>⟨(h.gh p hp).1,V.rep_snoc hlen hsub p.1 _ (h.gh p hp).2⟩⟩
 ·rcases uA i bs.length with hib | hib
  ·rw [yg hib] at hi;rcases uA j bs.length with hjb | hjb
   ·rw [yg hjb] at hj;exact h.own.apart i j c hi hj
   ·rw [yD hjb] at hj;have:j - bs.length=0:=by have:=(yb.1 hj).1;simp at this;omega
    rw [this] at hj;simp at hj;subst hj;exact absurd (yu hi) hnb
  ·rw [yD hib] at hi;have e1:i - bs.length=0:=by have:=(yb.1 hi).1;simp at this;omega
   rw [e1] at hi;simp at hi;subst hi;rcases uA j bs.length with hjb | hjb
   ·rw [yg hjb] at hj;exact absurd (yu hj) hnb
   ·rw [yD hjb] at hj;have:=(yb.1 hj).1;simp at this;omega
 ·rcases yK.1 hc with hc | hc
  ·exact λhA'=>h.own.not c hc (.inl hA')
  ·simp only [yO,yh] at hc;subst hc;exact hA
 ·rcases yK.1 hc with hc | hc
  ·exact h.own.lt c hc
  ·simp only [yO,yh] at hc;subst hc;exact hbl
 ·rcases uA i s.H.length with hi | hi
  ·simp only at hk;rw [yg hi] at hk;exact Blk.rep_snoc hlen hsub i k (h.blk i k hk)
  ·simp only at hk;rw [yD hi] at hk;have e1:i - s.H.length=0:=by have:=(yb.1 hk).1;simp at this;omega
   have e2:i=bs.length:=by omega
   rw [e1] at hk;simp at hk;subst hk;subst e2;simp only [Blk.rep];exact ⟨b,vs,by simp,hb,V.reps_snoc hlen hsub cs _ hcs⟩
 ·rcases yK.1 hc with hc | hc
  ·exact h.new c hc
  ·simp only [yO,yh] at hc;subst hc;exact .inr hlo
def zeroCells (P:Program) (t:TypeId):List V:=match zb3 P t with | some z=>z.cells.toList.map (λv=>.d (.val v)) | none=>[]
def contOf (P:Program) (es:List Ev) (r:Nat) (t:TypeId):List V:=match stored es r with | some d=>V.cellsV (.d d) | none=>zeroCells P t
def zf5 (P:Program) (es:List Ev):List Blk:=(allocs es).map λp=>.box p.2 (contOf P es p.1 p.2)
def ptrsOf:List (Nat×TypeId)→Nat→List (Nat×V)→List (Nat×V)
 | [],_,T=>T
 | (r,_)::al,m,T=>ptrsOf al (m+1) ((r,.loc m 0)::T)
theorem zic {A w bs H}:∀ (l:List Value),V.reps A w bs H (l.map λv=>.d (.val v)) l
 | []=>by simp [V.reps]
 | v::l=>by simp only [yM,V.reps];exact ⟨v,l,rfl,zr.2 rfl,zic l⟩
def zbR:List (Oper×V)→Nat→List (Nat×Nat×TypeId)
 | [],_=>[]
 | (o,_)::ps,k=>(zhr o).map (λp=>(k,p.1,p.2))++zbR ps (k+1)
theorem allocIdx_snd:∀ (ps:List (Oper×V)) (k:Nat),(zbR ps k).map (·.2)=zgM (ps.map (·.1))
 | [],_=>rfl
 | (o,v)::ps,k=>by
  simp only [zbR,ul,uL,yM,zgM,ug];rw [allocIdx_snd ps (k+1)];simp [zgM,Function.comp_def]
theorem mem_allocOf {o r t}:(r,t)∈zhr o↔o.op = .alloc t∧o.dst=some r:=by
 unfold zhr;cases hop:o.op <;> cases hd:o.dst <;> simp [eq_comm,and_comm]
theorem zgm:∀ (ps:List (Oper×V)) (k i r:Nat) (t:TypeId),(i,r,t)∈zbR ps k→k≤i∧∃ o v,ps[i - k]? = some (o,v)∧o.op = .alloc t∧o.dst=some r
 | [],_,_,_,_,h=>by simp [zbR] at h
 | (o,v)::ps,k,i,r,t,h=>by
  simp only [zbR,yK,yU,yx] at h;rcases h with ⟨⟨r',t'⟩,hm,rfl,rfl,rfl⟩ | h
  ·exact ⟨yn _,o,v,by simp,mem_allocOf.1 hm⟩
  ·obtain ⟨h1,o',v',h2,h3⟩:=zgm ps (k+1) i r t h;refine ⟨by omega,o',v',?_,h3⟩;rw [show i - k=i - (k+1)+1 by omega];simpa using h2
theorem allocIdx_mem:∀ (ps:List (Oper×V)) (k i:Nat) (o:Oper) (v:V) (r:Nat) (t:TypeId),ps[i]? = some (o,v)→o.op = .alloc t→o.dst=some r→(k+i,r,t)∈zbR ps k
 | [],_,_,_,_,_,_,h,_,_=>by simp at h
 | (o,v)::ps,k,0,o',v',r,t,h,h1,h2=>by
  simp only [y6,yh,yx] at h;obtain ⟨rfl,rfl⟩:=h;simp only [zbR,yK,yU];exact .inl ⟨(r,t),mem_allocOf.2 ⟨h1,h2⟩,rfl⟩
 | (o,v)::ps,k,i+1,o',v',r,t,h,h1,h2=>by
  simp only [zbR,yK];right;have:=allocIdx_mem ps (k+1) i o' v' r t (by simpa using h) h1 h2
  rwa [show k+1+i=k+(i+1) by omega] at this
theorem allocIdx_lt:∀ (ps:List (Oper×V)) (k:Nat),(zbR ps k).Pairwise (λx y=>x.1<y.1)
 | [],_=>by simp [zbR]
 | (o,v)::ps,k=>by
  simp only [zbR];rw [List.pairwise_append];refine ⟨?_,allocIdx_lt ps (k+1),λx hx y hy=>?_⟩
  ·unfold zhr;cases o.op <;> cases o.dst <;> simp
  ·simp only [yU] at hx;obtain ⟨p,_,rfl⟩:=hx;obtain ⟨i,r,t⟩:=y;have:=(zgm ps (k+1) i r t hy).1;simp only;omega
theorem R.adoptAll {C:Ctx} {F:Nat→Option Nat} {a:Act} {w:World} {A1:Nat→Prop} (cs:Nat×TypeId→List V):∀ (is:List (Nat×Nat×TypeId)) (bs:List (Option Nat)) (T:List (Nat×V)) (H:List Blk),
  is.Pairwise (λx y=>x.1<y.1)→(∀ i j b,F i=some b→F j=some b→i=j)→(∀ q,Own (λb=>C.A0 b∨∃ x∈is,F x.1=some b) bs q→A1 q) →
  (∀ x∈is,∃ b c,F x.1=some b∧a.tmps.getD x.2.1 Go.undef = .pointer (some ⟨b,0,none⟩)∧w.heap[b]? = some (.cells c x.2.2 (0,0))∧C.w0.heap.size≤b∧x.2.1<C.n∧¬ C.A0 b ∧
   ∀ A' bs' H',(∀ q,A' q→A1 q)→V.reps A' w bs' H' (cs x.2) c.toList) →
  R { C with A0:=λb=>C.A0 b∨∃ x∈is,F x.1=some b } bs ⟨T,H⟩ a w →
  ∃ bs',R C bs' ⟨ptrsOf (is.map (·.2)) H.length T,H++(is.map (·.2)).map λp=>.box p.2 (cs p)⟩ a w
 | [],bs,T,H,_,_,_,_,h=>by
  refine ⟨bs,?_⟩;have:=h.own_more (A:=C.A0) (Fr.refl zd w) (λb _ hb=>.inl hb) (λb hb=>h.own.foreign b (.inl hb));simpa [ptrsOf] using this
 | (i,r,t)::is,bs,T,H,hp,hinj,hA1,hx,h=>by
  obtain ⟨b,c,hF,htmp,hheap,hlo,hrn,hA0,hcs⟩:=hx (i,r,t) (by simp);simp only at hF htmp hheap hrn hcs;rw [uN] at hp;have hnotin:¬ (C.A0 b∨∃ x∈is,F x.1=some b):=by
   rintro (hc | ⟨x,hx1,hx2⟩)
   ·exact hA0 hc
   ·have e:=hinj _ _ _ hF hx2;have:=hp.1 x hx1;simp only at this;omega
  have h1:R { C with A0:=λc=>(C.A0 c∨∃ x∈is,F x.1=some c)∨c=b } bs ⟨T,H⟩ a w:=by
   have:=h.own_more (A:=λc=>(C.A0 c∨∃ x∈is,F x.1=some c)∨c=b) (Fr.refl zd w) (λc _ hc=>by
    rcases hc with (hc | ⟨x,hx1,hx2⟩) | rfl
    ·exact .inl hc
    ·exact .inr ⟨x,by simp [hx1],hx2⟩
    ·exact .inr ⟨(i,r,t),by simp,hF⟩) (λc hc=>by
    rcases hc with (hc | ⟨x,hx1,hx2⟩) | rfl
    ·exact h.own.foreign c (.inl hc)
    ·exact h.own.foreign c (.inr ⟨x,by simp [hx1],hx2⟩)
    ·exact (ym.1 hheap).1)
   exact this
  have h2:=R.adopt (C:=C) (cs:=cs (r,t)) (vs:=c) h1 hheap hnotin hlo (hcs _ _ _ λq hq=>hA1 q (by
   rcases hq with ((hq | ⟨x,hx1,hx2⟩) | rfl) | hq
   ·exact .inl (.inl hq)
   ·exact .inl (.inr ⟨x,by simp [hx1],hx2⟩)
   ·exact .inl (.inr ⟨(i,r,t),by simp,hF⟩)
   ·exact .inr hq))
  have hlen:=h.len;have h3:R { C with A0:=λc=>C.A0 c∨∃ x∈is,F x.1=some c } (bs++[some b]) ⟨(r,.loc H.length 0)::T,H++[.box t (cs (r,t))]⟩ a w:=by
   refine ⟨h2.own,h2.len,h2.blk,λu v hv=>?_,h2.defers,h2.size,h2.fr,h2.new,h2.gh⟩;simp only [zbc] at hv;split at hv <;> rename_i e
   ·cases hv;subst e;refine ⟨hrn,?_⟩;simp only [V.rep];simp only at hlen;rw [yD (yn _)];simp only [uI,y6];exact ⟨b,by rw [← hlen];simp,htmp⟩
   ·exact h2.tmp u v hv
  obtain ⟨bs',h4⟩:=R.adoptAll cs is (bs++[some b]) ((r,.loc H.length 0)::T) (H++[.box t (cs (r,t))]) hp.2 hinj (λq hq=>hA1 q (by
   rcases hq with (hq | ⟨x,hx1,hx2⟩) | hq
   ·exact .inl (.inl hq)
   ·exact .inl (.inr ⟨x,by simp [hx1],hx2⟩)
   ·rcases yK.1 hq with hq | hq
    ·exact .inr hq
    ·simp only [yO,yh] at hq;subst hq;exact .inl (.inr ⟨(i,r,t),by simp,hF⟩))) (λx hx'=>hx x (by simp [hx'])) h3
  refine ⟨bs',?_⟩;simpa [ptrsOf] using h4
theorem R.foreign {C bs s a w w' b} (h:R C bs s a w) (hf:Fr (λq=>some b=some q) w w') (hb:C.A0 b) (hlo:C.w0.heap.size≤b):R C bs s a w':=by
 have hrow:∀ q,some b=some q→Own C.A0 bs q∧∀ i:Nat,bs[i]?≠some (some q):=by
  rintro q ⟨⟩;exact ⟨.inl hb,λi hi=>h.own.not b (yu hi) hb⟩
 refine ⟨⟨h.own.apart,h.own.not,λq hq=>yL (h.own.lt q hq) hf.size,λq hq=>yL (h.own.foreign q hq) hf.size,h.own.glob.fr hf (λq hq=>(hrow q hq).1) (λ_ _ h=>h)⟩,h.len,λi k hk=>Blk.rep_row hf hrow (λ_ _ h=>h) i k (h.blk i k hk),λt v hv=>⟨(h.tmp t v hv).1,V.rep_row hf hrow (λ_ _ h=>h) v _ (h.tmp t v hv).2⟩,h.defers,h.size,?_,h.new,λp hp=>⟨(h.gh p hp).1,V.rep_row hf hrow (λ_ _ h=>h) p.1 _ (h.gh p hp).2⟩⟩;refine ⟨hf.os.trans h.fr.os,hf.tape.trans h.fr.tape,hf.output.trans h.fr.output,ue h.fr.size hf.size,λq hq hno=>?_,λd=>ue (h.fr.drawn d) (hf.drawn d)⟩;exact (hf.block q (yL hq h.fr.size) λe=>by cases e;omega).trans (h.fr.block q hq hno)
theorem D.cellsV_rep {A w bs H d u} (h:d.rep A w u) (h1:d.ones=true):V.reps A w bs H (V.cellsV (.d d)) u.cells.toList:=by
 have key:∀ (ds:List D) (vs:List Value),D.reps A w ds vs→V.reps A w bs H (ds.map .d) vs:=by
  intro ds
  induction ds with
  | nil=>intro vs h;simpa [V.reps,D.reps] using h
  | cons x ds ih=>
   intro vs h;simp only [D.reps] at h;obtain ⟨v,vs',rfl,h1,h2⟩:=h;simp only [yM,V.reps,V.rep];exact ⟨v,vs',rfl,h1,ih vs' h2⟩
 cases d with
 | agg ds=>
  simp only [D.rep] at h;obtain ⟨vs,rfl,hr⟩:=h;exact key ds _ hr
 | val v=>
  have hs:(D.val v).shape=none:=by cases v <;> first | rfl | simp [D.ones,D.one] at h1
  rw [D.cells_of_one h hs];have e:V.cellsV (.d (.val v))=[.d (.val v)]:=by cases v <;> first | rfl | simp [D.ones,D.one] at h1
  rw [e];simp only [V.reps,V.rep];exact ⟨u,[],rfl,h,rfl⟩
 | tup _=>simp [D.ones,D.one] at h1
 | sl _ _ | ref _ | fn _ _ _ | mp _ _ | err=>rw [D.cells_of_one h rfl];simp only [V.cellsV,V.reps,V.rep];exact ⟨u,[],rfl,h,rfl⟩
end
section
variable [Globs] [Drw]
theorem allocs_append (a b):allocs (a++b)=allocs a++allocs b:=by simp [allocs]
theorem allocs_ev (o v):allocs (evOf o v)=zhr o:=by
 unfold evOf zhr;cases o.op with
 | alloc t=>cases o.dst <;> rfl
 | store t x y=>cases x <;> cases v <;> cases o.dst <;> rfl
 | _=>cases o.dst <;> cases v <;> rfl
theorem allocs_evs:∀ (ps:List (Oper×V)),allocs (evsOf ps)=zgM (ps.map (·.1))
 | []=>rfl
 | (o,v)::ps=>by
  simp only [evsOf,ug,yM,zgM];rw [allocs_append];have ih:=allocs_evs ps;simp only [evsOf,zgM] at ih;rw [ih];rw [allocs_ev]
theorem zil (a b r):stored (a++b) r=(stored a r).or (stored b r):=by
 induction a with
 | nil=>rfl
 | cons e a ih=>
  obtain ⟨q,t,d⟩:=e;cases d with
  | none=>simpa [stored] using ih
  | some d=>
   simp only [y7,stored];split
   ·rfl
   ·exact ih
theorem stored_some:∀ (ps:List (Oper×V)) (r:Nat) (d:D),stored (evsOf ps) r=some d→∃ (j:Nat) (o:Oper) (t:TypeId) (y:Operand),ps[j]? = some (o,.d d)∧o.op = .store t (.tmp r) y
 | [],r,d,h=>by simp [evsOf,stored] at h
 | (o,v)::ps,r,d,h=>by
  simp only [evsOf,ug] at h;rw [zil] at h;cases h1:stored (evOf o v) r with
  | none=>
   rw [h1] at h;obtain ⟨j,o',t,y,g1,g2⟩:=stored_some ps r d h;exact ⟨j+1,o',t,y,by simpa using g1,g2⟩
  | some d'=>
   rw [h1] at h;simp only [Option.some_or,yh] at h;subst h;unfold evOf at h1;split at h1
   ·simp [stored] at h1
   ·rename_i t q y d2 h3;simp only [stored] at h1;split at h1 <;> rename_i e
    ·simp only [yh] at h1;subst h1;subst e;exact ⟨0,o,t,y,by simp,h3⟩
    ·cases h1
   ·simp [stored] at h1
theorem stored_none:∀ (ps:List (Oper×V)) (r:Nat),stored (evsOf ps) r=none→∀ (j:Nat) (o:Oper) (d:D) (t:TypeId) (y:Operand),ps[j]? = some (o,.d d)→o.op = .store t (.tmp r) y→False
 | [],r,_,j,o,d,t,y,hj,_=>by simp at hj
 | (o,v)::ps,r,h,j,o',d,t,y,hj,ho=>by
  simp only [evsOf,ug] at h;rw [zil,Option.or_eq_none_iff] at h;cases j with
  | zero=>
   simp only [y6,yh,yx] at hj;obtain ⟨rfl,rfl⟩:=hj;have:=h.1;simp [evOf,ho,stored] at this
  | succ j=>exact stored_none ps r h.2 j o' d t y (by simpa using hj) ho
theorem zhq {P C bs H T0 Q ps l2 M L0 l} (hl:l=ps.map (·.1)++l2)
  (ok:RegOK l ps.length M L0) (hy:∀ i o v,ps[i]? = some (o,v)→YV P C.n l.toArray H o (TL T0 ps (λk=>decide (k<i)) ps.length) v)
  (hal:zf3 (ps.map (·.1))=true) (hst:zeU (ps.map (·.1))=true) (J:Array Bool→Prop) (hJset:∀ (listed:Array Bool) i,i<ps.length→listed.size=l.length→J listed→J (listed.setIfInBounds i true))
  (hpend:∀ (m:Nat) (listed:Array Bool) (a:Act) (w:World),listed.size=l.length→J listed→(∀ i,ps.length≤i→listed.getD i false=false)→Closed l M listed→((List.range ps.length).filter λi=>!listed.getD i false).length=m →
   (∀ i,i<ps.length→i∉L0→listed.getD i false=true)→(∃ i∈L0,i<ps.length∧listed.getD i false=false)→(∃ F,R (C.plus F) bs ⟨TL T0 ps (λk=>listed.getD k false) ps.length,H⟩ a w∧Fresh P C bs ps (λk=>listed.getD k false) F a w∧∀ i b,F i=some b→¬ C.A0 b)→wpAny P .any l.toArray (QR C Q) (m+l2.length) listed a w)
  (hend:TriL P C l.toArray l2 Q ⟨ptrsOf (allocs (evsOf ps)) H.length (TL T0 ps (λ_=>true) ps.length),H++zf5 P (evsOf ps)⟩):∀ (fuel:Nat) (listed:Array Bool) (a:Act) (w:World),
  listed.size=l.length→J listed→(∀ i,ps.length≤i→listed.getD i false=false)→Closed l M listed→((List.range ps.length).filter λi=>!listed.getD i false).length+l2.length=fuel →
  (∃ F,R (C.plus F) bs ⟨TL T0 ps (λk=>listed.getD k false) ps.length,H⟩ a w∧Fresh P C bs ps (λk=>listed.getD k false) F a w∧∀ i b,F i=some b→¬ C.A0 b)→wpAny P .any l.toArray (QR C Q) fuel listed a w:=by
 have hlen:l.length=ps.length+l2.length:=by rw [hl];simp
 have hfst:∀ i o v,ps[i]? = some (o,v)→l[i]? = some o:=λi o v hi=>by
  rw [hl,yg (by simpa using (yb.1 hi).1)];simp [hi]
 have main:∀ (m:Nat) (listed:Array Bool) (a:Act) (w:World),
   listed.size=l.length→J listed→(∀ i,ps.length≤i→listed.getD i false=false)→Closed l M listed→((List.range ps.length).filter λi=>!listed.getD i false).length=m →
   (∃ F,R (C.plus F) bs ⟨TL T0 ps (λk=>listed.getD k false) ps.length,H⟩ a w∧Fresh P C bs ps (λk=>listed.getD k false) F a w∧∀ i b,F i=some b→¬ C.A0 b)→wpAny P .any l.toArray (QR C Q) (m+l2.length) listed a w:=by
  have huniq:=allocOK_spec hal;intro m
  induction m with
  | zero=>
   rintro listed a w hsz hL0 hlate hcl hm ⟨F,hR,hF,hFA⟩;have hall:∀ i,i<ps.length→listed.getD i false=true:=by
    intro i hi;have:=yW hm;rw [uC] at this;simpa using this i (yX.2 hi)
   have hR':R (C.plus F) bs ⟨TL T0 ps (λ_=>true) ps.length,H⟩ a w:=hR.weaken λt v hv=>by
    rw [← hv];refine zdE (λi o v hi _=>?_) ps.length;exact hall i (yb.1 hi).1
   have hcov:∀ b,(C.A0 b∨∃ x∈zbR ps 0,F x.1=some b)↔(C.A0 b∨∃ i,F i=some b):=by
    intro b;refine or_congr Iff.rfl ⟨λ⟨x,_,h⟩=>⟨x.1,h⟩,λ⟨i,h⟩=>?_⟩;obtain ⟨_,o,v,t,r,ho,h1,h2⟩:=hF.dom i b h;exact ⟨(i,r,t),by have:=allocIdx_mem ps 0 i o v r t ho h1 h2;simpa using this,h⟩
   have hR2:R { C with A0:=λb=>C.A0 b∨∃ x∈zbR ps 0,F x.1=some b } bs ⟨TL T0 ps (λ_=>true) ps.length,H⟩ a w:=
    hR'.own_more (A:=λb=>C.A0 b∨∃ x∈zbR ps 0,F x.1=some b) (Fr.refl zd w) (λb _ hb=>(hcov b).1 hb) (λb hb=>hR'.own.foreign b ((hcov b).1 hb))
   obtain ⟨bs2,hR3⟩:=R.adoptAll (A1:=Own (C.plus F).A0 bs) (λp=>contOf P (evsOf ps) p.1 p.2) (zbR ps 0) bs _ H (allocIdx_lt ps 0) hF.inj (λq hq=>hq.imp (λh=>(hcov q).1 h) id) (λx hx=>by
    obtain ⟨i,r,t⟩:=x;obtain ⟨_,o,v,ho,h1,h2⟩:=zgm ps 0 i r t hx;simp only [Nat.sub_zero] at ho;obtain ⟨b,z,c,h3,h4,h5,h6,h7,h8⟩:=hF.has i o v t r ho h1 h2 (hall i (yb.1 ho).1);refine ⟨b,c,h3,h5,h6,(hF.lo i b h3).1,?_,hFA i b h3,λA' bs' H' hA'=>?_⟩
    ·have:=(hy i o v ho).1;rw [h2] at this;simpa [dstOK] using this
    ·simp only [contOf];cases hs:stored (evsOf ps) r with
     | some d=>
      obtain ⟨j,o',t',y,g1,g2⟩:=stored_some ps r d hs;obtain ⟨u,rfl,hu⟩:=h7 j o' d t' y g1 g2 (hall j (yb.1 g1).1);have hones:d.ones=true:=by
       rcases (hy j o' _ g1).2 with ⟨q,_⟩ | ⟨_,⟨t2,r2,q,_⟩,_⟩ | ⟨q,_⟩ | ⟨_,t2,r2,y2,d2,k2,q1,q2,q3,q4,q5,q6,q7⟩
       ·simp [z0,g2] at q
       ·rw [g2] at q;cases q
       ·simp [z0,g2] at q
       ·cases q7;exact q4
      exact D.cellsV_rep (D.rep_fr (Fr.refl zd w) (λ_ x=>x.elim) (λq _ hq=>hA' q hq) d u hu) hones
     | none=>
      have hnone:=stored_none ps r hs;rw [h8 λj o' v' t' y g1 g2=>by
       exfalso;rcases (hy j o' v' g1).2 with ⟨q,_⟩ | ⟨_,⟨t2,r2,q,_⟩,_⟩ | ⟨q,_⟩ | ⟨_,t2,r2,y2,d2,k2,q1,q2,q3,q4,q5,q6,q7⟩
       ·simp [z0,g2] at q
       ·rw [g2] at q;cases q
       ·simp [z0,g2] at q
       ·subst q7;exact hnone j o' d2 t' y g1 g2]
      simp only [zeroCells,h4];exact zic _) hR2
   rw [allocIdx_snd,← allocs_evs] at hR3;have hw:=hend.run bs2 a w hR3;rw [uq];have hseq:∀ (g k:Nat) (listed:Array Bool),k+g=l.length→ps.length≤k→listed.size=l.length→(∀ i,i<k→listed.getD i false=true)→(∀ i,k≤i→listed.getD i false=false)→Region.seqB .any l.toArray g k listed=true:=by
    intro g
    induction g with
    | zero=>
     intro k listed hk _ hsz h1 _;simp only [Region.seqB,List.isEmpty_iff];rw [List.eq_nil_iff_forall_not_mem];intro i hi;obtain ⟨o,ho,hlf,_⟩:=zfc.1 hi;have hlt:=(yb.1 ho).1;rw [zbJ _ _ (by omega),h1 i (by omega)] at hlf;cases hlf
    | succ g ih=>
     intro k listed hk hps hsz h1 h2;have hkl:k<l.length:=by omega
     have hok:l[k]? = some l[k]:=yA hkl;have hready:Region.ready .any l.toArray listed=[k]:=by
      have hmem:∀ i,i∈Region.ready .any l.toArray listed↔i=k:=by
       intro i;rw [zfc];constructor
       ·rintro ⟨o,ho,hlf,he⟩;have hlt:=(yb.1 ho).1;rw [zbJ _ _ (by omega)] at hlf;by_cases hik:i<k
        ·rw [h1 i hik] at hlf;cases hlf
        ·by_cases hki:i=k
         ·exact hki
         ·exfalso;have hb:=(ok.late k i o (by omega) (by omega) ho).resolve_right (λhh=>by omega);have hcl2:Closed l M listed:=by
           intro j hj hjl i' hi';by_cases hjk:j<k
           ·have hoj:=yA hj;by_cases hi'k:i'<k
            ·exact h1 i' hi'k
            ·-- bits of a mask lie below
             exfalso;exact absurd hi' (by
              have:=mask_lt ok j _ hoj i';intro hc;have:=this hc;omega)
           ·rw [h2 j (by omega)] at hjl;cases hjl
          have:=zeQ ok hcl2 ho he k hb;rw [h2 k (yn _)] at this;cases this
       ·rintro rfl;refine ⟨_,hok,by rw [zbJ _ _ (by omega)];exact h2 i (yn _),λe he hb=>h1 _ (ok.back i _ hok e he hb)⟩
      have hnd:(Region.ready .any l.toArray listed).Nodup:=List.Pairwise.filter _ List.nodup_range;generalize Region.ready .any l.toArray listed=r at hmem hnd
      match r,hmem,hnd with
      | [],hmem,_=>exact absurd ((hmem k).2 rfl) (by simp)
      | [x],hmem,_=>rw [(hmem x).1 (by simp)]
      | x::y::r,hmem,hnd=>
       have h1:=(hmem x).1 (by simp);have h2:=(hmem y).1 (by simp);rw [h1,h2] at hnd;simp at hnd
     simp only [Region.seqB,hready,decide_true,yE];refine ih (k+1) _ (by omega) (by omega) (by simpa using hsz) (λi hi=>?_) (λi hi=>?_)
     ·rw [zZ _ _ _ _ (by omega)];split
      ·rfl
      ·exact h1 i (by omega)
     ·rw [zZ _ _ _ _ (by omega),if_neg (by omega)];exact h2 i (by omega)
   exact wpAny_of_seq l2 ps.length listed a w (λj=>by rw [hl];simp only [List.getElem?_toArray];rw [yD (by simp)];simp) (hseq l2.length ps.length listed (by omega) (yn _) hsz hall hlate) hw
  | succ m ih=>
   rintro listed a w hsz hL0 hlate hcl hm ⟨F,hR,hF,hFA⟩;rw [show m+1+l2.length=m+l2.length+1 by omega];by_cases hnon:∀ i,i<ps.length→i∉L0→listed.getD i false=true
   ·have hexp:∃ i∈L0,i<ps.length∧listed.getD i false=false:=by
     have hne:((List.range ps.length).filter λi=>!listed.getD i false)≠[]:=λh=>by rw [h] at hm;simp at hm
     obtain ⟨i,hi⟩:=List.exists_mem_of_ne_nil _ hne;simp only [List.mem_filter,yX,yw] at hi;refine ⟨i,Classical.byContradiction λhc=>?_,hi⟩;rw [hnon i hi.1 hc] at hi;cases hi.2
    have:=hpend (m+1) listed a w hsz hL0 hlate hcl hm hnon hexp ⟨F,hR,hF,hFA⟩;rw [show m+1+l2.length=m+l2.length+1 by omega] at this;exact this
   have hnon':∃ i,i<ps.length∧i∉L0∧listed.getD i false=false:=by
    refine Classical.byContradiction λhc=>hnon λi h1 h2=>?_
    cases hb:listed.getD i false with
    | true=>rfl
    | false=>exact absurd ⟨i,h1,h2,hb⟩ hc
   have hex:∃ i,i<ps.length∧listed.getD i false=false:=by
    have hne:((List.range ps.length).filter λi=>!listed.getD i false)≠[]:=λh=>by rw [h] at hm;simp at hm
    obtain ⟨i,hi⟩:=List.exists_mem_of_ne_nil _ hne;simp only [List.mem_filter,yX,yw] at hi;exact ⟨i,hi⟩
   have hleast:∃ i,i<ps.length∧listed.getD i false=false∧∀ k,k<i→listed.getD k false=true:=by
    obtain ⟨i,hi⟩:=hex
    induction i using Nat.strongRecOn with
    | _ i ih2=>
     by_cases h:∀ k,k<i→listed.getD k false=true
     ·exact ⟨i,hi.1,hi.2,h⟩
     ·have:∃ k,k<i∧listed.getD k false=false:=by
       refine Classical.byContradiction λhc=>h λk hk=>?_
       cases hb:listed.getD k false with
       | true=>rfl
       | false=>exact absurd ⟨k,hk,hb⟩ hc
      obtain ⟨k,hk,hkl⟩:=this;exact ih2 k hk ⟨by omega,hkl⟩
   refine ⟨λhnil=>?_,λi hi=>?_⟩
   ·obtain ⟨i,hips,hil,hbelow⟩:=hleast;have hlt:i<l.length:=by omega
    have:i∈Region.ready .any l.toArray listed:=zfc.2 ⟨l[i],yA hlt,by rw [zbJ _ _ (by omega)];exact hil,λe he hb=>hbelow _ (ok.back i _ (yA hlt) e he hb)⟩;rw [hnil] at this;cases this
   ·obtain ⟨o,ho,hil,hedges⟩:=zfc.1 hi;have hlt:=(yb.1 ho).1;rw [zbJ _ _ (by omega)] at hil;have hbef:=zeQ ok hcl ho hedges;have hips:i<ps.length:=by
     refine Nat.lt_of_not_le λhc=>?_
     obtain ⟨k,hk,hkn,hkl⟩:=hnon';rcases ok.late k i o (by omega) hc ho with hh | hh
     ·have:=hbef k hh;rw [hkl] at this;cases this
     ·exact hkn hh.1
    have hpi:ps[i]? = some (ps[i].1,ps[i].2):=yA hips;have hoi:o=ps[i].1:=by have:=hfst i _ _ hpi;rw [ho] at this;simpa using this
    subst hoi;have hlook:∀ t∈(ps[i].1).looksAt l.toArray,look t (TL T0 ps (λk=>decide (k<i)) ps.length)=look t (TL T0 ps (λk=>listed.getD k false) ps.length):=by
     intro t ht;refine zdE (λk ok' vk hk hd=>?_) ps.length;have hlk:=hfst k ok' vk hk;rcases Nat.lt_trichotomy k i with hki | hki | hki
     ·simp only [hki,decide_true];rcases ok.pair k i ok' _ hki hlk ho with hb | hap
      ·exact (hbef k hb).symm
      ·exact absurd ht ((Oper.apart_spec hap).1 t hd)
     ·subst hki;simp only [Nat.lt_irrefl,decide_false];exact hil.symm
     ·simp only [show ¬ k<i by omega,decide_false];cases hb:listed.getD k false with
      | false=>rfl
      | true=>
       exfalso;rcases ok.pair i k _ ok' hki ho hlk with hb2 | hap
       ·have:=hcl k (by have:=(yb.1 hlk).1;omega) hb i hb2;rw [hil] at this;cases this
       ·exact (Oper.apart_spec hap).2.2 t hd ht
    have hyi:=(hy i _ _ hpi).congr hlook;obtain ⟨hdst,hyi⟩:=hyi;have next:∀ (w':World) (u:Value) (F':Nat→Option Nat),R (C.plus F') bs (St.put ⟨TL T0 ps (λk=>listed.getD k false) ps.length,H⟩ (ps[i].1).dst ps[i].2) (a.put (ps[i].1).dst u) w' →
      Fresh P C bs ps (λk=>(listed.setIfInBounds i true).getD k false) F' (a.put (ps[i].1).dst u) w'→(∀ i b,F' i=some b→¬ C.A0 b)→wpAny P .any l.toArray (QR C Q) (m+l2.length) (listed.setIfInBounds i true) (a.put (ps[i].1).dst u) w':=by
     intro w' u F' hR2 hF2 hFA2;refine ih _ _ _ (by simpa using hsz) (hJset _ _ hips hsz hL0) (λk hk=>by rw [zZ _ _ _ _ (by omega),if_neg (by omega)];exact hlate k hk) ?_ ?_ ?_
     ·intro j hj hjl i' hi';rw [zZ _ _ _ _ (by omega)] at hjl ⊢;split
      ·rfl
      ·rename_i hne;split at hjl <;> rename_i hji
       ·subst hji;exact hbef i' hi'
       ·exact hcl j hj hjl i' hi'
     ·have hcount:∀ n,i<n→((List.range n).filter λk=>!(listed.setIfInBounds i true).getD k false).length+1=((List.range n).filter λk=>!listed.getD k false).length:=by
       intro n
       induction n with
       | zero=>intro h;omega
       | succ n ihn=>
        intro hin;simp only [uJ,List.filter_append,yG];by_cases hn:i=n
        ·subst hn;have e1:(List.range i).filter (λk=>!(listed.setIfInBounds i true).getD k false)=(List.range i).filter (λk=>!listed.getD k false):=by
          refine List.filter_congr λk hk=>?_
          rw [zZ _ _ _ _ (by omega),if_neg (by have:=yX.1 hk;omega)]
         rw [e1];have e3:(listed.setIfInBounds i true).getD i false=true:=by rw [zZ _ _ _ _ (by omega),if_pos rfl]
         simp only [List.filter_cons,List.filter_nil,e3,hil];simp
        ·have:=ihn (by omega);have e2:(listed.setIfInBounds i true).getD n false=listed.getD n false:=by rw [zZ _ _ _ _ (by omega),if_neg (by omega)]
         simp only [List.filter_cons,List.filter_nil,e2];omega
      have:=hcount ps.length hips;omega
     ·refine ⟨F',?_,hF2,hFA2⟩;rw [St.put_eq] at hR2;refine hR2.weaken λt v hv=>?_
      rw [← hv];rw [zda];by_cases hd:(ps[i].1).dst=some t
      ·rw [if_pos hd];have h1:look t (TL T0 ps (λk=>(listed.setIfInBounds i true).getD k false) ps.length)=look t (TL T0 ps (λk=>decide (k<i+1)) ps.length):=by
        refine zdE (λk ok' vk hk hdk=>?_) ps.length;have hlk:=hfst k ok' vk hk;rw [zZ _ _ _ _ (by omega)];rcases Nat.lt_trichotomy k i with hki | hki | hki
        ·rw [if_neg (by omega)];simp only [show k<i+1 by omega,decide_true];rcases ok.pair k i ok' _ hki hlk ho with hb | hap
         ·exact hbef k hb
         ·exact absurd hd ((Oper.apart_spec hap).2.1 t hdk)
        ·rw [if_pos hki];simp [hki]
        ·rw [if_neg (by omega)];simp only [show ¬ k<i+1 by omega,decide_false];cases hb:listed.getD k false with
         | false=>rfl
         | true=>
          exfalso;rcases ok.pair i k _ ok' hki ho hlk with hb2 | hap
          ·have:=hcl k (by have:=(yb.1 hlk).1;omega) hb i hb2;rw [hil] at this;cases this
          ·exact (Oper.apart_spec hap).2.1 t hd hdk
       rw [h1];have h2:=zef (T:=T0) (ps:=ps) (p:=λk=>decide (k<i+1)) (m:=i+1) (λk hk=>by simp;omega) (ps.length - (i+1));rw [show i+1+(ps.length - (i+1))=ps.length by omega] at h2;rw [h2];simp only [TL,hpi,Nat.lt_succ_self,decide_true,if_true,zda,hd]
      ·rw [if_neg hd];refine zdE (λk ok' vk hk hdk=>?_) ps.length;rw [zZ _ _ _ _ (by omega)];split
       ·rename_i hki;subst hki;rw [hpi] at hk;simp only [yh,yx] at hk;obtain ⟨rfl,_⟩:=hk;exact absurd hdk hd
       ·rfl
    have hli:∀ k,(listed.setIfInBounds i true).getD k false=true↔k=i∨listed.getD k false=true:=λk=>by
     rw [zZ _ _ _ _ (by omega)];by_cases hk:k=i
     ·simp [hk]
     ·simp [hk]
    have keepF:∀ (w':World) (u:Value),Fr zd w w'→z0 ps[i].1=false→Fresh P C bs ps (λk=>(listed.setIfInBounds i true).getD k false) F (a.put (ps[i].1).dst u) w':=by
     intro w' u hfr hnsp;have hna:=not_alloc hnsp;refine ⟨λk b hk=>?_,λk o v t r hk h1 h2 h3=>?_,hF.inj,λk b hk=>⟨(hF.lo k b hk).1,yL (hF.lo k b hk).2 hfr.size⟩⟩
     ·obtain ⟨h1,h2⟩:=hF.dom k b hk;exact ⟨(hli k).2 (.inr h1),h2⟩
     ·have hki:k≠i:=by
       rintro rfl;rw [hpi] at hk;simp only [yh,yx] at hk;obtain ⟨rfl,_⟩:=hk;simp [zfz,h1] at hna
      have hl3:listed.getD k false=true:=((hli k).1 h3).resolve_left hki;obtain ⟨b,z,c,e1,e2,e3,e4,e5,e6⟩:=hF.has k o v t r hk h1 h2 hl3;have hsti:∀ j o' v' t' y,ps[j]? = some (o',v')→o'.op = .store t' (.tmp r) y→j≠i:=by
       rintro j o' v' t' y g1 g2 rfl;rw [hpi] at g1;simp only [yh,yx] at g1;obtain ⟨rfl,_⟩:=g1;simp [z0,g2] at hnsp
      refine ⟨b,z,c,e1,e2,?_,by rw [hfr.block b (hF.lo k b e1).2 (λx=>x)];exact e4,λj o' d t' y g1 g2 g3=>?_,λhno=>e6 λj o' v' t' y g1 g2=>?_⟩
      ·have hne:=huniq k i o ps[i].1 (by simp [hk]) (by simp [hpi]) (by simp [zfz,h1]) (λh=>hki h.symm);rw [h2] at hne;cases hd:(ps[i].1).dst with
       | none=>simpa [Act.put] using e3
       | some d=>
        rw [hd] at hne hdst;have hdn:d<a.tmps.size:=by rw [hR.size];simpa [dstOK,Ctx.plus] using hdst
        simp only [Act.put,zeN _ _ _ _ _ hdn];rw [if_neg (by intro h;exact hne (by rw [h]))];exact e3
      ·obtain ⟨u,hu1,hu2⟩:=e5 j o' d t' y g1 g2 (((hli j).1 g3).resolve_left (hsti j o' _ t' y g1 g2));exact ⟨u,hu1,D.rep_ext hfr hu2⟩
      ·have:=hno j o' v' t' y g1 g2;cases hb:listed.getD j false with
       | false=>rfl
       | true=>rw [(hli j).2 (.inr hb)] at this;cases this
    unfold wpOp;have hoa:l.toArray[i]? = some ps[i].1:=by simpa using ho
    simp only [hoa];rcases hyi with ⟨hna,hg,hv⟩ | ⟨hg,⟨t,r,hop,hdr,hz⟩,hvj⟩ | ⟨hna,j,want,g,hg,hj,hyi⟩ | ⟨hg,t,r,y,d,k,hop,hdn,hey,hone,hsh,hzf,hvd⟩
    ·rw [if_pos (by simp [Region.wanted,hg])];left;refine Oper.wp_of_runs (hv.run (C.plus F).A0 bs w a.eval hR.mem (λx _ y hx=>hR.ev hx) (λ_=>rfl) (λ_=>rfl)) λu w' ⟨hfr,hu⟩=>next w' u F (hR.put hfr _ hdst hu) (keepF w' u hfr hna) hFA
    ·rw [if_pos (by simp [Region.wanted,hg])];left;cases hzz:zb3 P t with
     | none=>rw [hzz] at hz;cases hz
     | some z=>
      have hrun:(execOp a.eval ps[i].1).run P w = .ok (.value (.pointer (some ⟨w.heap.size,0,none⟩))) (w.alloc (.cells z.cells t)):=by
       unfold zb3 at hzz;cases hi:P.info? t with
       | none=>simp [hi] at hzz
       | some inf=>
        simp only [hi] at hzz;simp only [execOp,hop,Instr.alloc,zeroValue,typeInfo,program,newVar,newRow,newObj,Sem.run_bind,Sem.run,hi,hzz,Sem.run_pure,Result.andThen_ok];rfl
      have hfr:Fr zd w (w.alloc (.cells z.cells t)):=⟨rfl,rfl,rfl,by simp,λb hb _=>Below.heap_alloc w _ b hb,λ_=>yn _⟩
      unfold Oper.wp;rw [hrun];simp only [Oper.upon];have hrn:r<a.tmps.size:=by rw [hdr] at hdst;rw [hR.size];simpa [dstOK,Ctx.plus] using hdst
      have hFi:F i=none:=by
       cases hFi:F i with
       | none=>rfl
       | some b=>have:=(hF.dom i b hFi).1;rw [hil] at this;cases this
      let F':Nat→Option Nat:=λk=>if k=i then some w.heap.size else F k
      have hF':∀ k b,F' k=some b→(k=i∧b=w.heap.size)∨(k≠i∧F k=some b):=by
       intro k b h;simp only [F'] at h;split at h <;> rename_i e
       ·exact .inl ⟨e,by simpa using h.symm⟩
       ·exact .inr ⟨e,h⟩
      refine next _ _ F' ?_ ⟨λk b hk=>?_,λk o v t' r' hk h1 h2 h3=>?_,λk k' b h1 h2=>?_,λk b hk=>?_⟩ (λk b hk=>?_)
      ·have hR1:R (C.plus F') bs ⟨TL T0 ps (λk=>listed.getD k false) ps.length,H⟩ a (w.alloc (.cells z.cells t)):=by
        have:=hR.own_more (A:=(C.plus F').A0) hfr (λb hb hb'=>?_) (λb hb'=>?_)
        ·exact this
        ·rcases hb' with hb' | ⟨k,hk⟩
         ·exact .inl hb'
         ·rcases hF' k b hk with ⟨_,e⟩ | ⟨_,e⟩
          ·omega
          ·exact .inr ⟨k,e⟩
        ·rcases hb' with hb' | ⟨k,hk⟩
         ·exact yL (hR.own.foreign b (.inl hb')) hfr.size
         ·rcases hF' k b hk with ⟨_,e⟩ | ⟨_,e⟩
          ·subst e;simp
          ·exact yL (hF.lo k b e).2 hfr.size
       rw [hvj];exact hR1.put (Fr.refl _ _) _ hdst (by simp only [V.rep])
      ·rcases hF' k b hk with ⟨e1,_⟩ | ⟨_,e2⟩
       ·subst e1;exact ⟨(hli k).2 (.inl rfl),_,_,t,r,hpi,hop,hdr⟩
       ·obtain ⟨d1,d2⟩:=hF.dom k b e2;exact ⟨(hli k).2 (.inr d1),d2⟩
      ·by_cases hki:k=i
       ·subst hki;rw [hpi] at hk;simp only [yh,yx] at hk;obtain ⟨rfl,_⟩:=hk;rw [hop] at h1;cases h1;rw [hdr] at h2;cases h2;refine ⟨w.heap.size,z,z.cells,by simp [F'],hzz,?_,heap_alloc_new w _,λj o' d t' y g1 g2 g3=>?_,λ_=>rfl⟩
        ·simp only [hdr,Act.put,zeN _ _ _ _ _ hrn,if_true]
        ·-- no store there can have come before
         exfalso;have hjk:j≠k:=by
          rintro rfl;rw [hpi] at g1;simp only [yh,yx] at g1;obtain ⟨rfl,_⟩:=g1;rw [hop] at g2;cases g2
         have hjl:=((hli j).1 g3).resolve_left hjk;obtain ⟨⟨q,oq,hq1,hq2,hq3,hq4⟩,_⟩:=zim hst j o' t' r y (by simp [g1]) g2;have hqk:q=k:=by
          refine Classical.byContradiction λhne=>?_
          exact huniq q k oq ps[k].1 hq2 (by simp [hpi]) (by simp [zfz,hq3]) (λh=>hne h.symm) (by rw [hq4,hdr])
         subst hqk;have hlj:=hfst j o' _ g1;rcases ok.pair q j _ o' hq1 ho hlj with hb | hap
         ·have:=hcl j (yb.1 hlj).1 hjl q hb;rw [hil] at this;cases this
         ·refine (Oper.apart_spec hap).1 r hdr ?_;simp only [Oper.looksAt,yK,List.mem_filterMap];left;exact ⟨.tmp r,by simp [g2,Op.operands],rfl⟩
       ·have hl3:listed.getD k false=true:=((hli k).1 h3).resolve_left hki;obtain ⟨b,z',c,e1,e2,e3,e4,e5,e6⟩:=hF.has k o v t' r' hk h1 h2 hl3;have hsti:∀ j o' v' t' y,ps[j]? = some (o',v')→o'.op = .store t' (.tmp r') y→j≠i:=by
         rintro j o' v' t' y g1 g2 rfl;rw [hpi] at g1;simp only [yh,yx] at g1;obtain ⟨rfl,_⟩:=g1;rw [hop] at g2;cases g2
        refine ⟨b,z',c,by simp [F',hki,e1],e2,?_,by rw [hfr.block b (hF.lo k b e1).2 (λx=>x)];exact e4,λj o' d t'' y g1 g2 g3=>?_,λhno=>e6 λj o' v' t'' y g1 g2=>?_⟩
        ·have hne:=huniq k i o ps[i].1 (by simp [hk]) (by simp [hpi]) (by simp [zfz,h1]) (λh=>hki h.symm);rw [h2,hdr] at hne;simp only [hdr,Act.put,zeN _ _ _ _ _ hrn];rw [if_neg (by intro h;exact hne (by rw [h]))];exact e3
        ·obtain ⟨u,hu1,hu2⟩:=e5 j o' d t'' y g1 g2 (((hli j).1 g3).resolve_left (hsti j o' _ t'' y g1 g2));refine ⟨u,hu1,D.rep_fr hfr (λ_ x=>x.elim) (λq hq hq'=>?_) d u hu2⟩;rcases hq' with (hq' | ⟨p,hp⟩) | hq'
         ·exact .inl (.inl hq')
         ·rcases hF' p q hp with ⟨_,e⟩ | ⟨_,e⟩
          ·omega
          ·exact .inl (.inr ⟨p,e⟩)
         ·exact .inr hq'
        ·have:=hno j o' v' t'' y g1 g2;cases hb:listed.getD j false with
         | false=>rfl
         | true=>rw [(hli j).2 (.inr hb)] at this;cases this
      ·rcases hF' k b h1 with ⟨e1,e2⟩ | ⟨e1,e2⟩ <;> rcases hF' k' b h2 with ⟨e3,e4⟩ | ⟨e3,e4⟩
       ·omega
       ·have:=(hF.lo k' b e4).2;omega
       ·have:=(hF.lo k b e2).2;omega
       ·exact hF.inj k k' b e2 e4
      ·rcases hF' k b hk with ⟨_,e⟩ | ⟨_,e⟩
       ·subst e;exact ⟨hR.fr.size,by simp⟩
       ·exact ⟨(hF.lo k b e).1,yL (hF.lo k b e).2 hfr.size⟩
      ·rcases hF' k b hk with ⟨_,e⟩ | ⟨_,e⟩
       ·subst e;exact λh=>absurd (hR.own.foreign _ (.inl h)) (by omega)
       ·exact hFA k b e
    ·rcases hyi with ⟨hgl,hv⟩ | ⟨hgl,hvu⟩
     ·have hyl:=hR.yielded hj hgl;rw [if_pos (by simp [Region.wanted,hg,hyl,zf4])];left;refine Oper.wp_of_runs (hv.run (C.plus F).A0 bs w a.eval hR.mem (λx _ y hx=>hR.ev hx) (λ_=>rfl) (λ_=>rfl)) λu w' ⟨hfr,hu⟩=>next w' u F (hR.put hfr _ hdst hu) (keepF w' u hfr hna) hFA
     ·have hyl:Go.yielded l.toArray a.tmps j≠some want:=by
       rcases hgl with hgl | hgl
       ·rw [hR.yielded hj hgl];simp [zf4,Go.undef]
       ·rw [hR.yielded hj hgl];cases want <;> simp [zf4]
      rw [if_neg (by simp [Region.wanted,hg,hyl])];exact next w Go.undef F (hR.put (Fr.refl _ _) _ hdst (by rw [hvu];exact zr.2 rfl)) (keepF w Go.undef (Fr.refl _ _) hna) hFA
    ·-- a store into a block that waits
     rw [if_pos (by simp [Region.wanted,hg])];left;obtain ⟨⟨q,oq,hq1,hq2,hq3,hq4⟩,hone1⟩:=zim hst i _ t r y (by simp [hpi]) hop;have hq5:∃ vq,ps[q]? = some (oq,vq):=by
      simp only [y8,Option.map_eq_some_iff] at hq2;obtain ⟨⟨o1,v1⟩,g1,g2⟩:=hq2;simp only at g2;subst g2;exact ⟨v1,g1⟩
     obtain ⟨vq,hq5⟩:=hq5;have hql:listed.getD q false=true:=by
      rcases ok.pair q i oq _ hq1 (hfst q oq vq hq5) ho with hb | hap
      ·exact hbef q hb
      ·exfalso;refine (Oper.apart_spec hap).1 r hq4 ?_;simp only [Oper.looksAt,yK,List.mem_filterMap];left;exact ⟨.tmp r,by simp [hop,Op.operands],rfl⟩
     obtain ⟨b,z,c,e1,e2,e3,e4,e5,e6⟩:=hF.has q oq vq t r hq5 hq3 hq4 hql;have hcz:c=z.cells:=e6 λj o' v' t' y' g1 g2=>by
      have:=hone1 j o' t' y' (by simp [g1]) g2;rw [this];exact hil
     subst hcz;have hyr:=hR.ev hey;simp only [V.rep] at hyr;unfold zaW at hzf;cases hinf:P.info? t with
     | none=>simp [hinf] at hzf
     | some inf=>
      simp only [hinf,yc,beq_iff_eq] at hzf;obtain ⟨hzs,hzf⟩:=hzf;have hz2:inf.zero=some z:=by unfold zb3 at e2;simpa [hinf] using e2
      simp only [hz2,beq_iff_eq] at hzf;have hcs:(a.eval y).cells.size=inf.size:=by rw [D.cells_size hyr hsh,hzs]
      have hstc:=run_storeCells_from (P:=P) b t (a.eval y).cells.toList 0 z.cells w e4 (by simp;omega) (λv hv=>D.one_cells hyr hone v hv);have hevr:a.eval (.tmp r) = .pointer (some ⟨b,0,none⟩):=e3;have hrun:(execOp a.eval ps[i].1).run P w = .ok .skip (w.setRow b (a.eval y).cells):=by
       simp only [execOp,hop,hevr,Instr.storeAt,Instr.sureAddr,storeVar,sizeOf,typeInfo,program,Sem.run_bind,Sem.run,hinf,Sem.run_pure,Result.andThen_ok,hcs,ne_eq,not_true_eq_false,if_false];simp only [List.take_zero,yV,Array.toArray_toList] at hstc;simp [hstc]
      unfold Oper.wp;rw [hrun];simp only [Oper.upon];have hfr:Fr (λp=>some b=some p) w (w.setRow b (a.eval y).cells):=⟨rfl,rfl,rfl,by simp,λp _ hno=>setRow_other w b p _ (λe=>hno (by rw [e])),λ_=>yn _⟩
      have hR2:=hR.foreign hfr (.inr ⟨q,e1⟩) (hF.lo q b e1).1;refine next _ Go.undef F (by rw [hdn];exact hR2) ⟨λk b' hk=>?_,λk o v t' r' hk h1 h2 h3=>?_,hF.inj,λk b' hk=>⟨(hF.lo k b' hk).1,by simpa using (hF.lo k b' hk).2⟩⟩ hFA
      ·obtain ⟨g1,g2⟩:=hF.dom k b' hk;exact ⟨(hli k).2 (.inr g1),g2⟩
      ·have hki:k≠i:=by
        rintro rfl;rw [hpi] at hk;simp only [yh,yx] at hk;obtain ⟨rfl,_⟩:=hk;rw [hop] at h1;cases h1
       have hl3:listed.getD k false=true:=((hli k).1 h3).resolve_left hki;obtain ⟨b',z',c',f1,f2,f3,f4,f5,f6⟩:=hF.has k o v t' r' hk h1 h2 hl3;have hWA:∀ p,some b=some p→Own (C.plus F).A0 bs p:=by rintro p ⟨⟩;exact .inl (.inr ⟨q,e1⟩)
       rw [hdn];by_cases hrr:r'=r
       ·subst hrr;have hkq:k=q:=by
         refine Classical.byContradiction λhne=>?_
         exact huniq q k oq o hq2 (by simp [hk]) (by simp [zfz,hq3]) hne (by rw [h2,hq4])
        subst hkq;rw [hq5] at hk;simp only [yh,yx] at hk;obtain ⟨rfl,rfl⟩:=hk;rw [hq3] at h1;cases h1;rw [e1] at f1;cases f1;refine ⟨b,z',(a.eval y).cells,e1,f2,f3,setRow_heap w b z.cells _ t _ e4,λj o' d' t'' y' g1 g2 _=>?_,λhno=>?_⟩
        ·have hji:=hone1 j o' t'' y' (by simp [g1]) g2;subst hji;rw [hpi] at g1;simp only [yh,yx] at g1;have hd':d'=d:=by have:=g1.2;rw [hvd] at this;cases this;rfl
         subst hd';exact ⟨a.eval y,rfl,D.rep_fr hfr hWA (λ_ _ h=>h) d' _ hyr⟩
        ·have:=hno i _ _ t y hpi hop;rw [(hli i).2 (.inl rfl)] at this;cases this
       ·have hbb:b'≠b:=by
         rintro rfl;have:=hF.inj k q _ f1 e1;subst this;rw [hq5] at hk;simp only [yh,yx] at hk;obtain ⟨rfl,_⟩:=hk;rw [hq4] at h2;cases h2;exact hrr rfl
        have hsti:∀ j o' v' t'' y',ps[j]? = some (o',v')→o'.op = .store t'' (.tmp r') y'→j≠i:=by
         rintro j o' v' t'' y' g1 g2 rfl;rw [hpi] at g1;simp only [yh,yx] at g1;obtain ⟨rfl,_⟩:=g1;rw [hop] at g2;cases g2;exact hrr rfl
        refine ⟨b',z',c',f1,f2,f3,by rw [setRow_other w b b' _ hbb];exact f4,λj o' d' t'' y' g1 g2 g3=>?_,λhno=>f6 λj o' v' t'' y' g1 g2=>?_⟩
        ·obtain ⟨u,hu1,hu2⟩:=f5 j o' d' t'' y' g1 g2 (((hli j).1 g3).resolve_left (hsti j o' _ t'' y' g1 g2));exact ⟨u,hu1,D.rep_fr hfr hWA (λ_ _ h=>h) d' u hu2⟩
        ·have:=hno j o' v' t'' y' g1 g2;cases hb:listed.getD j false with
         | false=>rfl
         | true=>rw [(hli j).2 (.inr hb)] at this;cases this
 intro fuel listed a w hsz hL0 hlate hcl hm hR;have:=main _ listed a w hsz hL0 hlate hcl rfl hR
 rwa [hm] at this
theorem zfL {P C bs H T0 Q ps l2 M L0 l} (hl:l=ps.map (·.1)++l2)
  (ok:RegOK l ps.length M L0) (hy:∀ i o v,ps[i]? = some (o,v)→YV P C.n l.toArray H o (TL T0 ps (λk=>decide (k<i)) ps.length) v)
  (hal:zf3 (ps.map (·.1))=true) (hst:zeU (ps.map (·.1))=true) (hend:TriL P C l.toArray l2 Q ⟨ptrsOf (allocs (evsOf ps)) H.length (TL T0 ps (λ_=>true) ps.length),H++zf5 P (evsOf ps)⟩):∀ (fuel:Nat) (listed:Array Bool) (a:Act) (w:World),
  listed.size=l.length→(∀ i∈L0,listed.getD i false=true)→(∀ i,ps.length≤i→listed.getD i false=false)→Closed l M listed→((List.range ps.length).filter λi=>!listed.getD i false).length+l2.length=fuel →
  (∃ F,R (C.plus F) bs ⟨TL T0 ps (λk=>listed.getD k false) ps.length,H⟩ a w∧Fresh P C bs ps (λk=>listed.getD k false) F a w∧∀ i b,F i=some b→¬ C.A0 b)→wpAny P .any l.toArray (QR C Q) fuel listed a w:=by
 intro fuel listed a w hsz hL0 hlate hcl hm hF;have hlen:l.length=ps.length+l2.length:=by rw [hl];simp
 refine zhq hl ok hy hal hst (λlisted=>∀ i∈L0,listed.getD i false=true) (λlisted i hi hsz h k hk=>?_) (λm listed a w _ hJ _ _ _ _ ⟨i,h1,_,h2⟩ _=>?_) hend fuel listed a w hsz hL0 hlate hcl hm hF
 ·rw [zZ _ _ _ _ (by omega)];split
  ·rfl
  ·exact h k hk
 ·rw [hJ i h1] at h2;cases h2
theorem R.drew {C bs s a w} (h:R C bs s a w):R C bs s a { w with drawn:=w.drawn+1 }:=by
 have hf:Fr zd w { w with drawn:=w.drawn+1 }:=⟨rfl,rfl,rfl,yn _,λ_ _ _=>rfl,λ_=>Nat.le_succ _⟩
 exact h.put hf none rfl (v:=.junk) (u:=Go.undef) (by simp only [V.rep])
def afterQ (P:Program) (H:List Blk) (al:List Ev) (T:List (Nat×V)):St:=⟨ptrsOf (allocs al) H.length T,H++zf5 P al⟩
theorem Wk.ptrsOf {n T T'} (h:Wk n T T'):∀ (al:List (Nat×TypeId)) (m:Nat),Wk n (Go.Proofs.YtbnhmfnagdgcmaaGreatDoor.ptrsOf al m T) (Go.Proofs.YtbnhmfnagdgcmaaGreatDoor.ptrsOf al m T'):=by
 intro al
 induction al generalizing T T' with
 | nil=>intro m;exact h
 | cons p al ih=>
  intro m;obtain ⟨r,ty⟩:=p;simp only [Go.Proofs.YtbnhmfnagdgcmaaGreatDoor.ptrsOf];exact ih (h.putT (some r) (.loc m 0)) (m+1)
theorem TriL.wk {P C ops rest Q H T T'} (hw:Wk C.n T T') (h:TriL P C ops rest Q ⟨T',H⟩):TriL P C ops rest Q ⟨T,H⟩:=by
 refine ⟨λbs a w hR=>h.run bs a w ⟨hR.own,hR.len,hR.blk,λt v hv=>?_,hR.defers,hR.size,hR.fr,hR.new,hR.gh⟩⟩;rcases hw t v hv with h1 | ⟨rfl,h1⟩
 ·exact hR.tmp t v h1
 ·exact ⟨h1,by simp only [V.rep]⟩
theorem Tri.draw {P C Q s id l} (n) (hm:P.follows .mixedOrders=true) (hok:regOK l n=true) (hal:(zf3 (l.take n)&&zeU (l.take n))=true)
  (h:TriQ P C.n l.toArray s.H (l.take n) [] s.T (λal T=>TriL P C l.toArray (l.drop n) Q (afterQ P s.H al T))):Tri P C (.region id l.toArray true) Q s:=by
 rw [yc] at hal;refine ⟨λbs a w hR=>?_⟩;obtain ⟨M,ok⟩:=ziP hok;obtain ⟨qs,hq1,hq2,T',hK,hq3⟩:=TriQ0.path (T0:=s.T) (l.take n) [] s.T [] (λ_=>rfl) h.run;simp only [yV,uz,uq] at hq2 hq3 hK;have hlen:qs.length=min n l.length:=by have:=congrArg List.length hq1;simpa using this
 have ok':RegOK l qs.length M []:=by
  refine ⟨ok.mask,ok.back,ok.pair,λi j oj hij hn hj=>?_⟩;have:=(yb.1 hj).1;exact (ok.late i j oj hij (by omega) hj).imp (λh=>h) (λh=>by simp at h)
 have hl:l=qs.map (·.1)++l.drop n:=by rw [hq1,uB]
 refine wp_region_any hm ?_;have hf:∀ i,(Array.replicate l.toArray.size false).getD i false=false:=λi=>by
  simp only [yP,Array.getElem?_replicate];split <;> rfl
 have hcnt:((List.range qs.length).filter λi=>!(Array.replicate l.toArray.size false).getD i false)=List.range qs.length:=by
  rw [List.filter_eq_self];intro i _;rw [hf i];rfl
 have hend:TriL P C l.toArray (l.drop n) Q ⟨ptrsOf (allocs (evsOf qs)) s.H.length (TL s.T qs (λ_=>true) qs.length),s.H++zf5 P (evsOf qs)⟩:=by
  exact TriL.wk (hq3.ptrsOf _ _) hK
 have key:=zfL (P:=P) (C:=C) (bs:=bs) (H:=s.H) (T0:=s.T) (Q:=Q) (ps:=qs) (l2:=l.drop n) (M:=M) (l:=l) hl ok' (λi o v hi=>hq2 i o v hi) (by rw [hq1];exact hal.1) (by rw [hq1];exact hal.2)
  hend l.length (Array.replicate l.toArray.size false) a { w with drawn:=w.drawn+1 } (by simp) (λi h=>by simp at h) (λi _=>hf i) (λj _ hj=>by rw [hf j] at hj;cases hj) (by
   rw [hcnt];simp only [List.length_range,hlen,ua];omega) ?_
 ·exact key
 ·refine ⟨λ_=>none,?_,⟨λi b h=>(by cases h),λi o v t r _ _ _ h=>(by simp only [hf] at h;cases h),λi j b h=>(by cases h),λi b h=>(by cases h)⟩,λi b h=>(by cases h)⟩;obtain ⟨T,H⟩:=s;have hR2:=hR.drew.own_more (A:=(C.plus λ_=>none).A0) (Fr.refl zd _) (λb _ hb=>hb.elim (λh=>h) (λ⟨i,h⟩=>(by cases h))) (λb hb=>hb.elim (hR.drew.own.foreign b) (λ⟨i,h⟩=>(by cases h)));refine hR2.weaken λt v hv=>?_
  rw [← hv];have:TL T qs (λk=>(Array.replicate l.toArray.size false).getD k false) qs.length=TL T qs (λk=>(Array.replicate l.toArray.size false).getD k false) 0:=by
   have:=zef (T:=T) (ps:=qs) (p:=λk=>(Array.replicate l.toArray.size false).getD k false) (m:=0) (λi _=>hf i) qs.length;simpa using this
  rw [this];rfl
end
section
variable [Globs] [Drw]
theorem TriQ0.toList {P C ops H l2 Q}:∀ (l:List Oper) (al:List Ev) (T:List (Nat×V)) (bs:List (Option Nat)) (a:Act) (w:World),
  (∀ o∈l,z0 o=false)→TriQ0 P C.n ops H l al T (λ_ T=>TriL P C ops l2 Q ⟨T,H⟩)→R C bs ⟨T,H⟩ a w→wpList P ops (QR C Q) (l++l2) a w
 | [],al,T,bs,a,w,_,h,hR=>by
  obtain ⟨T1,h1,h2⟩:=h;exact (TriL.wk h1 h2).run bs a w hR
 | o::l,al,T,bs,a,w,hna,h,hR=>by
  unfold TriQ0 at h;obtain ⟨T1,hw,hd,h⟩:=h;have hR1:R C bs ⟨T1,H⟩ a w:=by
   refine ⟨hR.own,hR.len,hR.blk,λt v hv=>?_,hR.defers,hR.size,hR.fr,hR.new,hR.gh⟩;rcases hw t v hv with h1 | ⟨rfl,h1⟩
   ·exact hR.tmp t v h1
   ·exact ⟨h1,by simp only [V.rep]⟩
  have hno:=hna o (by simp);have hnl:∀ o∈l,z0 o=false:=λx hx=>hna x (by simp [hx])
  have run:∀ v,OpV P o (ev T1) H v→TriQ0 P C.n ops H l al (putT T1 o.dst v) (λ_ T=>TriL P C ops l2 Q ⟨T,H⟩)→∀ K:Act→World→Prop,(∀ a w,wpList P ops (QR C Q) (l++l2) a w→K a w)→o.wp P a w K (QR C Q):=by
   intro v hv hk K hK;refine Oper.wp_of_runs (hv.run C.A0 bs w a.eval hR1.mem (λx _ y hx=>hR1.ev hx) (λ_=>rfl) (λ_=>rfl)) λu w' ⟨hfr,hu⟩=>?_
   have:=hR1.put hfr o.dst hd hu;rw [St.put_eq] at this;exact hK _ _ (TriQ0.toList l al _ bs _ _ hnl hk this)
  have skip:TriQ0 P C.n ops H l al (putT T1 o.dst .undef) (λ_ T=>TriL P C ops l2 Q ⟨T,H⟩)→wpList P ops (QR C Q) (l++l2) (a.put o.dst Go.undef) w:=by
   intro hk;have:=hR1.put (Fr.refl _ _) o.dst hd (v:=.undef) (u:=Go.undef) (zr.2 rfl);rw [St.put_eq] at this;exact TriQ0.toList l al _ bs _ _ hnl hk this
  simp only [y7];cases hg:o.guard with
  | none=>
   rw [hg] at h;rcases h with ⟨_,v,hv,hk⟩ | ⟨t,r,h0,_⟩ | ⟨t,r,y,d,k,h0,_⟩
   ·exact wpList_plain hg λK hK=>run v hv hk K hK
   ·simp [z0,h0] at hno
   ·simp [z0,h0] at hno
  | some jw=>
   obtain ⟨j,want⟩:=jw;rw [hg] at h;obtain ⟨_,g,hj,h⟩:=h;rcases h with ⟨h2,h3⟩ | ⟨h2,h3⟩ | ⟨h2,v,h3,h4⟩
   ·refine wpList_step λK hK=>?_
    rw [if_neg (by simp [Region.wanted,hg,hR1.yielded hj h2,zf4,Go.undef])];exact hK _ _ (skip h3)
   ·refine wpList_step λK hK=>?_
    rw [if_neg (by cases want <;> simp [Region.wanted,hg,hR1.yielded hj h2,zf4])];exact hK _ _ (skip h3)
   ·refine wpList_step λK hK=>?_
    rw [if_pos (by simp [Region.wanted,hg,hR1.yielded hj h2,zf4])];exact run v h3 h4 K hK
def noAlloc (l:List Oper):Bool:=l.all λo=>!z0 o
theorem Tri.plain {P:Program} {C:Ctx} {Q:Exit→St→Prop} {s:St} {id:Nat} {l:List Oper} (n:Nat) (hna:noAlloc (l.take n)=true)
  (h:TriQ P C.n l.toArray s.H (l.take n) [] s.T (λ_ T=>TriL P C l.toArray (l.drop n) Q ⟨T,s.H⟩)):Tri P C (.region id l.toArray false) Q s:=by
 refine ⟨λbs a w hR=>?_⟩;have hl:l=l.take n++l.drop n:=(uB n l).symm;have hna':∀ o∈l.take n,z0 o=false:=λo ho=>by
  have:=(yo.1 hna) o ho;simpa using this
 have:=TriQ0.toList (l.take n) [] s.T bs a w hna' h.run hR;rw [← hl] at this;exact wp_region_lit this
theorem TriL.step {P C ops o rest Q s s'} (hg:o.guard=none)
  (h:∀ bs a w,R C bs s a w→∃ n w' bs',(execOp a.eval o).run P w = .ok n w'∧((∃ u,n = .value u∧R C bs' s' (a.put o.dst u) w')∨(n = .skip∧R C bs' s' (a.put o.dst Go.undef) w')))
  (k:TriL P C ops rest Q s'):TriL P C ops (o::rest) Q s:=by
 refine ⟨λbs a w hR=>wpList_plain hg λK hK=>?_⟩;obtain ⟨n,w',bs',hr,h⟩:=h bs a w hR;unfold Oper.wp;rw [hr];rcases h with ⟨u,rfl,hR'⟩ | ⟨rfl,hR'⟩
 ·simp only [Oper.upon];exact hK _ _ (k.run bs' _ _ hR')
 ·simp only [Oper.upon];exact hK _ _ (k.run bs' _ _ hR')
def Blk.under (n:Nat):Blk→Bool
 | .box _ cs=>V.unders n cs
 | .it j _ _ _=>Nat.blt j n
 | _=>true
mutual
theorem V.rep_cut {A A' w bs bs' H H' n} (hb:∀ i,i<n→bs'[i]? = bs[i]?) (hH:∀ i,i<n→H'[i]? = H[i]?) (hA:∀ b,b<w.heap.size→A' b→A b) :
  ∀ (x:V) (v:Value),x.under n=true→V.rep A w bs H x v→V.rep A' w bs' H' x v
 | .d x,v,_,hv=>by simp only [V.rep] at hv ⊢;exact D.rep_fr (Fr.refl zd w) (λ_ x=>x.elim) hA x v hv
 | .loc i off,v,hn,hv=>by
  simp only [V.under,uE] at hn;simp only [V.rep] at hv ⊢;rw [hH i hn,hb i hn];exact hv
 | .vec i m,v,hn,hv=>by
  simp only [V.under,uE] at hn;simp only [V.rep] at hv ⊢;rw [hH i hn];split at hv
  ·rename_i t k xs he;refine ⟨hv.1,λhm=>?_⟩;obtain ⟨cells,h1,h2,h3⟩:=hv.2 hm;exact ⟨cells,h1,by rw [hb i hn];exact h2,D.flat_fr (Fr.refl zd w) (λ_ x=>x.elim) hA xs cells h3⟩
  ·trivial
  ·exact hv.elim
 | .el i m j off,v,hn,hv=>by
  simp only [V.under,uE] at hn;simp only [V.rep] at hv ⊢;rw [hH i hn];split at hv
  ·rename_i t k xs he;refine ⟨hv.1,λhm=>?_⟩;obtain ⟨hdr,cells,h1,h2,h3,h4⟩:=hv.2 hm;exact ⟨hdr,cells,h1,by rw [hb i hn];exact h2,D.flat_fr (Fr.refl zd w) (λ_ x=>x.elim) hA xs cells h3,h4⟩
  ·trivial
  ·exact hv.elim
 | .sub i m lo hi,v,hn,hv=>by
  simp only [V.under,uE] at hn;simp only [V.rep] at hv ⊢;rw [hH i hn];split at hv
  ·rename_i t k xs he;refine ⟨hv.1,λhm=>?_⟩;obtain ⟨hdr,cells,h1,h2,h3,h4⟩:=hv.2 hm;exact ⟨hdr,cells,h1,by rw [hb i hn];exact h2,D.flat_fr (Fr.refl zd w) (λ_ x=>x.elim) hA xs cells h3,h4⟩
  ·trivial
  ·exact hv.elim
 | .arr i off m,v,hn,hv=>by
  simp only [V.under,uE] at hn;simp only [V.rep] at hv ⊢;rw [hH i hn];split at hv
  ·rw [hb i hn];exact hv
  ·trivial
  ·exact hv.elim
 | .agg cs,v,hn,hv=>by
  simp only [V.under] at hn;simp only [V.rep] at hv ⊢;obtain ⟨vs,e,hr⟩:=hv;exact ⟨vs,e,V.reps_cut hb hH hA cs _ hn hr⟩
 | .tup cs,v,hn,hv=>by
  simp only [V.under] at hn;simp only [V.rep] at hv ⊢;obtain ⟨vs,e,hr⟩:=hv;exact ⟨vs,e,V.reps_cut hb hH hA cs _ hn hr⟩
 | .fn f fs cs,v,hn,hv=>by
  simp only [V.under,yc] at hn;simp only [V.rep] at hv ⊢;obtain ⟨vs,us,e,h1,h2⟩:=hv;exact ⟨vs,us,e,V.reps_cut hb hH hA fs _ hn.1 h1,V.reps_cut hb hH hA cs _ hn.2 h2⟩
 | .mp i,v,hn,hv=>by
  simp only [V.under,uE] at hn;simp only [V.rep] at hv ⊢;rw [hH i hn,hb i hn];exact hv
 | .itp i,v,hn,hv=>by
  simp only [V.under,uE] at hn;simp only [V.rep] at hv ⊢;rw [hH i hn,hb i hn];exact hv
 | .que i m,v,hn,hv=>by
  simp only [V.under,uE] at hn;simp only [V.rep] at hv ⊢;rw [hH i hn,hb i hn];split at hv
  ·refine ⟨hv.1,λhm=>?_⟩;obtain ⟨b,o,cap,h1,h2,h3⟩:=hv.2 hm;exact ⟨b,o,cap,h1,h2,h3.fr (Fr.refl zd w) (λx=>x) (λ_ x=>x.elim) hA⟩
  ·trivial
  ·exact hv.elim
 | .qel i m j,v,hn,hv=>by
  simp only [V.under,uE] at hn;simp only [V.rep] at hv ⊢;rw [hH i hn,hb i hn];split at hv
  ·refine ⟨hv.1,λhm=>?_⟩;obtain ⟨b,o,cap,h1,h2,hj,h3⟩:=hv.2 hm;exact ⟨b,o,cap,h1,h2,hj,h3.fr (Fr.refl zd w) (λx=>x) (λ_ x=>x.elim) hA⟩
  ·trivial
  ·exact hv.elim
 | .junk,_,_,_=>by simp only [V.rep]
theorem V.reps_cut {A A' w bs bs' H H' n} (hb:∀ i,i<n→bs'[i]? = bs[i]?) (hH:∀ i,i<n→H'[i]? = H[i]?) (hA:∀ b,b<w.heap.size→A' b→A b) :
  ∀ (xs:List V) (vs:List Value),V.unders n xs=true→V.reps A w bs H xs vs→V.reps A' w bs' H' xs vs
 | [],vs,_,hv=>by simpa only [V.reps] using hv
 | x::xs,vs,hn,hv=>by
  simp only [V.unders,yc] at hn;simp only [V.reps] at hv ⊢;obtain ⟨v,vs',e,h1,h2⟩:=hv;exact ⟨v,vs',e,V.rep_cut hb hH hA x v hn.1 h1,V.reps_cut hb hH hA xs vs' hn.2 h2⟩
end
def St.ge (s t:St):Prop:=∃ X,s.H=t.H++X∧(t.H.all (Blk.under t.H.length))=true∧(t.T.all λp=>p.2.under t.H.length)=true∧Sub t.T s.T
theorem R.ge {C bs s t a w} (h:R C bs s a w) (hl:s.ge t) (hgn:Nat.ble C.gn t.H.length=true):∃ bs',R C bs' t a w:=by
 obtain ⟨T,H⟩:=t;obtain ⟨X,hX,h1,h2,h3⟩:=hl;simp only at hX h1 h2 h3;have hlen:=h.len;have hHl:H.length≤bs.length:=by rw [hlen,hX];simp
 have hb:∀ i,i<H.length→(bs.take H.length)[i]? = bs[i]?:=λi hi=>by rw [uH,if_pos hi]
 have hH:∀ i,i<H.length→H[i]? = s.H[i]?:=λi hi=>by rw [hX,yg hi]
 have hsub:∀ b,some b∈bs.take H.length→some b∈bs:=λb hb=>List.mem_of_mem_take hb
 have hA:∀ b,b<w.heap.size→Own C.A0 (bs.take H.length) b→Own C.A0 bs b:=λb _ hb'=>hb'.imp id (hsub b)
 have hlt:∀ {i:Nat} {x:Option Nat},(bs.take H.length)[i]? = some x→bs[i]? = some x:=by
  intro i x hx;have:=(yb.1 hx).1;simp only [yR] at this;rw [hb i (by omega)] at hx;exact hx
 refine ⟨bs.take H.length,⟨λi j b hi hj=>h.own.apart i j b (hlt hi) (hlt hj),λb hb=>h.own.not b (hsub b hb),λb hb=>h.own.lt b (hsub b hb),h.own.foreign,h.own.glob.fr (Fr.refl zd w) (λ_ x=>x.elim) hA⟩,by simp;omega,λi k hk=>?_,λu v hv=>?_,h.defers,h.size,h.fr,λb hb=>h.new b (hsub b hb),λp hp=>⟨(h.gh p hp).1,V.rep_cut (λi hi=>hb i (yL hi (yi hgn))) (λi hi=>hH i (yL hi (yi hgn))) hA p.1 _ (h.gh p hp).1 (h.gh p hp).2⟩⟩
 ·simp only at hk ⊢;have hi:=(yb.1 hk).1;have hk2:s.H[i]? = some k:=by rw [← hH i hi];exact hk
  have hx:=h.blk i k hk2;have hbk:k.under H.length=true:=(yo.1 h1) k (yu hk);cases k with
  | box t cs=>
   simp only [Blk.rep] at hx ⊢;simp only [Blk.under] at hbk;obtain ⟨b,vs,e1,e2,e3⟩:=hx;exact ⟨b,vs,by rw [hb i hi];exact e1,e2,V.reps_cut hb hH hA cs _ hbk e3⟩
  | arr t k xs=>
   simp only [Blk.rep] at hx ⊢;obtain ⟨b,vs,e1,e2,e3⟩:=hx;exact ⟨b,vs,by rw [hb i hi];exact e1,e2,D.flat_fr (Fr.refl zd w) (λ_ x=>x.elim) hA xs _ e3⟩
  | mp bo ks ds clock=>
   simp only [Blk.rep] at hx ⊢;obtain ⟨b,es,e1,e2,e3,e4,e5⟩:=hx;exact ⟨b,es,by rw [hb i hi];exact e1,e2,e3,e4,D.reps_fr (Fr.refl zd w) (λ_ x=>x.elim) hA ds _ e5⟩
  | it j since seen last=>
   simp only [Blk.under,uE] at hbk;simp only [Blk.rep] at hx ⊢;rw [hH j hbk,hb i hi,hb j hbk];exact hx
  | itd bo ks ds clock since seen last=>
   simp only [Blk.rep] at hx ⊢;obtain ⟨b,mb,es,e1,e2,e3,e4,e5,e6,e7,e8⟩:=hx;exact ⟨b,mb,es,by rw [hb i hi];exact e1,λe=>e2 (hA mb e3 e),e3,e4,e5,e6,D.reps_fr (Fr.refl zd w) (λ_ x=>x.elim) hA ds _ e7,e8⟩
  | vec t k xs=>trivial
  | que s t k xs=>trivial
  | dead=>trivial
 ·simp only at hv ⊢;have h4:=h.tmp u v (h3.look u v hv);have hmem:∀ (L:List (Nat×V)),look u L=some v→(L.all λp=>p.2.under H.length)=true→v.under H.length=true:=by
   intro L
   induction L with
   | nil=>intro h;simp [look] at h
   | cons p L ih=>
    intro h5 h6;obtain ⟨c,x⟩:=p;simp only [um,yc] at h6;simp only [zbc] at h5;split at h5
    ·cases h5;exact h6.1
    ·exact ih h5 h6.2
  exact ⟨h4.1,V.rep_cut hb hH hA v _ (hmem T hv h2) h4.2⟩
theorem Tri.ge {P C Q s t c} (hl:s.ge t) (h:Tri P C c Q t) (hgn:Nat.ble C.gn t.H.length=true:=by exact rfl):Tri P C c Q s:=⟨λ_ a w hR=>let ⟨bs',hR'⟩:=hR.ge hl hgn;h.run bs' a w hR'⟩
inductive Looks (T:List (Nat×V)):List Nat→List (Nat×V)→Prop
 | nil:Looks T [] []
 | cons {k:Nat} {v:V} {ks:List Nat} {K:List (Nat×V)}:look k T=some v→Looks T ks K→Looks T (k::ks) ((k,v)::K)
theorem Looks.sub {T}:∀ {ks:List Nat} {K:List (Nat×V)},Looks T ks K→Sub K T
 | _,_,.nil=>trivial
 | _,_,.cons h r=>⟨h,r.sub⟩
end
section
variable [Globs] [Drw]
theorem D.row_flat {A w b k}:∀ (xs:List D) (off:Nat),D.row A w b k xs off→∃ cs,D.flat A w k xs cs∧∀ j u,cs[j]? = some u→w.cell? ⟨b,off+j,none⟩=some u
 | [],off,_=>⟨[],by simp [D.flat],by simp⟩
 | x::xs,off,h=>by
  simp only [D.row] at h;obtain ⟨⟨u,h1,h2,h3⟩,h4⟩:=h;obtain ⟨cs,c1,c2⟩:=D.row_flat xs (off+k) h4;refine ⟨u.cells.toList++cs,by simp only [D.flat];exact ⟨u,cs,rfl,h3,h1,c1⟩,λj v hv=>?_⟩;by_cases hj:j<k
  ·rw [yg (by simp [h3,hj])] at hv;have:=h2 j (by omega);rw [this];simpa using hv
  ·rw [yD (by simp [h3];omega)] at hv;simp only [yC,h3] at hv;have:=c2 (j - k) v hv
   rwa [show off+k+(j - k)=off+j by omega] at this
theorem D.flat_ones {A w k}:∀ {xs:List D} {cs:List Value},(∀ x∈xs,x.ones=true)→D.flat A w k xs cs→∀ c∈cs,c.oneCell'=true
 | [],cs,_,h=>by simp only [D.flat] at h;subst h;simp
 | x::xs,cs,h1,h=>by
  simp only [D.flat] at h;obtain ⟨u,cs',rfl,_,h2,h3⟩:=h;intro c hc;rcases yK.1 hc with hc | hc
  ·exact D.one_cells h2 (h1 x (by simp)) c hc
  ·exact D.flat_ones (λy hy=>h1 y (by simp [hy])) h3 c hc
def Compat (A A':Nat→Prop) (w w':World):Blk→Option Nat→Blk→Option Nat→Prop
 | .box _ _,c,.box _ _,c'=>c'=c
 | .vec t k xs,c,.vec t' k' ys,c'=>xs.length<ys.length∨(ys.length=xs.length∧k'=k∧c'=c ∧
  ∀ v cells,w.ownsRow 0 t k v xs.length cells→c=v.ownBlock→D.flat A w k xs cells→∃ cells',w'.ownsRow 0 t' k' v xs.length cells'∧D.flat A' w' k' ys cells')
 | .arr _ k xs,c,.arr _ k' ys,c'=>c'=c∧k'=k∧ys.length=xs.length
 | .mp _ _ _ _,c,.mp _ _ _ _,c'=>c'=c
 | .it _ _ _ _,c,.it _ _ _ _,c'=>c'=c
 | .que s _ _ _,_,.que s' _ _ _,_=>s<s'
 | .itd _ _ _ _ _ _ _,c,.itd _ _ _ _ _ _ _,c'=>c'=c
 | _,_,.dead,_=>True
 | _,_,_,_=>False
section
variable {A A':Nat→Prop} {w w':World} {bs:List (Option Nat)} {H:List Blk} {i:Nat} {x y:Blk} {c c':Option Nat} {W:Nat→Prop}
mutual
theorem V.rep_upd (hi:H[i]? = some x) (hc:bs[i]? = some c) (hcomp:Compat A A' w w' x c y c') (hap:∀ (p q:Nat) (b:Nat),bs[p]? = some (some b)→bs[q]? = some (some b)→p=q) (hfr:Fr W w w') (hWA:∀ b,W b→A b) (hW:∀ b,W b→c=some b)
  (hA:∀ b,b<w.heap.size→A' b→A b):∀ (z:V) (v:Value),V.rep A w bs H z v→V.rep A' w' (bs.set i c') (H.set i y) z v
 | .d z,v,hv=>by simp only [V.rep] at hv ⊢;exact D.rep_fr hfr hWA hA z v hv
 | .loc j off,v,hv=>by
  simp only [V.rep] at hv ⊢;by_cases hij:i=j
  ·subst hij;rw [yt (yb.1 hi).1];rw [hi] at hv;cases x <;> cases y <;> simp only [Compat] at hcomp hv ⊢
   rw [yt (yb.1 hc).1,hcomp,← hc];exact hv
  ·rw [yv hij,yv hij];exact hv
 | .vec j n,v,hv=>by
  simp only [V.rep] at hv ⊢;by_cases hij:i=j
  ·subst hij;rw [yt (yb.1 hi).1];rw [hi] at hv;cases x <;> cases y <;> simp only [Compat] at hcomp hv ⊢
   rcases hcomp with hcomp | ⟨e1,e2,e3,e4⟩
   ·exact ⟨by omega,λh=>by omega⟩
   ·refine ⟨by omega,λhn=>?_⟩;rw [e1] at hn;obtain ⟨cells,h1,h2,h3⟩:=hv.2 hn;subst hn;have hcc:c=v.ownBlock:=by rw [hc] at h2;simpa using h2
    obtain ⟨cells',g1,g2⟩:=e4 v cells h1 hcc h3;exact ⟨cells',g1,by rw [yt (yb.1 hc).1,e3,hcc],g2⟩
  ·rw [yv hij];split at hv
   ·rename_i t k xs he;refine ⟨hv.1,λhn=>?_⟩;obtain ⟨cells,h1,h2,h3⟩:=hv.2 hn;have hg:w.grownBy w' c:=⟨hfr.os,hfr.tape,hfr.output,hfr.size,λb hb hne=>hfr.block b hb (λh=>hne (hW b h).symm)⟩
    refine ⟨cells,h1.kept hg ?_,by rw [yv hij];exact h2,D.flat_fr hfr hWA hA xs cells h3⟩;cases hob:v.ownBlock with
    | none=>exact .inl rfl
    | some b=>
     right;intro h;rw [hob] at h2;exact hij (hap i j b (by rw [hc,← h]) h2)
   ·trivial
   ·exact hv.elim
 | .el j n q off,v,hv=>by
  simp only [V.rep] at hv ⊢;by_cases hij:i=j
  ·subst hij;rw [yt (yb.1 hi).1];rw [hi] at hv;cases x <;> cases y <;> simp only [Compat] at hcomp hv ⊢
   rcases hcomp with hcomp | ⟨e1,e2,e3,e4⟩
   ·exact ⟨by omega,λh=>by omega⟩
   ·refine ⟨by omega,λhn=>?_⟩;rw [e1] at hn;obtain ⟨hdr,cells,h1,h2,h3,h4⟩:=hv.2 hn;subst hn;have hcc:c=hdr.ownBlock:=by rw [hc] at h2;simpa using h2
    obtain ⟨cells',g1,g2⟩:=e4 hdr cells h1 hcc h3;exact ⟨hdr,cells',g1,by rw [yt (yb.1 hc).1,e3,hcc],g2,by rw [e2];exact h4⟩
  ·rw [yv hij];split at hv
   ·rename_i t k xs he;refine ⟨hv.1,λhn=>?_⟩;obtain ⟨hdr,cells,h1,h2,h3,h4⟩:=hv.2 hn;have hg:w.grownBy w' c:=⟨hfr.os,hfr.tape,hfr.output,hfr.size,λb hb hne=>hfr.block b hb (λh=>hne (hW b h).symm)⟩
    refine ⟨hdr,cells,h1.kept hg ?_,by rw [yv hij];exact h2,D.flat_fr hfr hWA hA xs cells h3,h4⟩;cases hob:hdr.ownBlock with
    | none=>exact .inl rfl
    | some b=>
     right;intro h;rw [hob] at h2;exact hij (hap i j b (by rw [hc,← h]) h2)
   ·trivial
   ·exact hv.elim
 | .sub j n lo hh,v,hv=>by
  simp only [V.rep] at hv ⊢;by_cases hij:i=j
  ·subst hij;rw [yt (yb.1 hi).1];rw [hi] at hv;cases x <;> cases y <;> simp only [Compat] at hcomp hv ⊢
   rcases hcomp with hcomp | ⟨e1,e2,e3,e4⟩
   ·exact ⟨by omega,λh=>by omega⟩
   ·refine ⟨by omega,λhn=>?_⟩;rw [e1] at hn;obtain ⟨hdr,cells,h1,h2,h3,h4⟩:=hv.2 hn;subst hn;have hcc:c=hdr.ownBlock:=by rw [hc] at h2;simpa using h2
    obtain ⟨cells',g1,g2⟩:=e4 hdr cells h1 hcc h3;exact ⟨hdr,cells',g1,by rw [yt (yb.1 hc).1,e3,hcc],g2,by rw [e2];exact h4⟩
  ·rw [yv hij];split at hv
   ·rename_i t k xs he;refine ⟨hv.1,λhn=>?_⟩;obtain ⟨hdr,cells,h1,h2,h3,h4⟩:=hv.2 hn;have hg:w.grownBy w' c:=⟨hfr.os,hfr.tape,hfr.output,hfr.size,λb hb hne=>hfr.block b hb (λh=>hne (hW b h).symm)⟩
    refine ⟨hdr,cells,h1.kept hg ?_,by rw [yv hij];exact h2,D.flat_fr hfr hWA hA xs cells h3,h4⟩;cases hob:hdr.ownBlock with
    | none=>exact .inl rfl
    | some b=>
     right;intro h;rw [hob] at h2;exact hij (hap i j b (by rw [hc,← h]) h2)
   ·trivial
   ·exact hv.elim
 | .arr j off n,v,hv=>by
  simp only [V.rep] at hv ⊢;by_cases hij:i=j
  ·subst hij;rw [yt (yb.1 hi).1];rw [hi] at hv;cases x <;> cases y <;> simp only [Compat] at hcomp hv ⊢
   obtain ⟨e1,e2,e3⟩:=hcomp;rw [yt (yb.1 hc).1,e1,e2,e3,← hc];exact hv
  ·rw [yv hij,yv hij];exact hv
 | .agg cs,v,hv=>by
  simp only [V.rep] at hv ⊢;obtain ⟨vs,e,hr⟩:=hv;exact ⟨vs,e,V.reps_upd hi hc hcomp hap hfr hWA hW hA cs _ hr⟩
 | .tup cs,v,hv=>by
  simp only [V.rep] at hv ⊢;obtain ⟨vs,e,hr⟩:=hv;exact ⟨vs,e,V.reps_upd hi hc hcomp hap hfr hWA hW hA cs _ hr⟩
 | .fn f fs cs,v,hv=>by
  simp only [V.rep] at hv ⊢;obtain ⟨vs,us,e,h1,h2⟩:=hv;exact ⟨vs,us,e,V.reps_upd hi hc hcomp hap hfr hWA hW hA fs _ h1,V.reps_upd hi hc hcomp hap hfr hWA hW hA cs _ h2⟩
 | .mp j,v,hv=>by
  simp only [V.rep] at hv ⊢;by_cases hij:i=j
  ·subst hij;rw [yt (yb.1 hi).1];rw [hi] at hv;cases x <;> cases y <;> simp only [Compat] at hcomp hv ⊢
   rw [yt (yb.1 hc).1,hcomp,← hc];exact hv
  ·rw [yv hij,yv hij];exact hv
 | .itp j,v,hv=>by
  simp only [V.rep] at hv ⊢;by_cases hij:i=j
  ·subst hij;rw [yt (yb.1 hi).1];rw [hi] at hv;cases x <;> cases y <;> simp only [Compat] at hcomp hv ⊢
   all_goals
    rw [yt (yb.1 hc).1,hcomp,← hc];exact hv
  ·rw [yv hij,yv hij];exact hv
 | .que j m,v,hv=>by
  simp only [V.rep] at hv ⊢;by_cases hij:i=j
  ·subst hij;rw [yt (yb.1 hi).1];rw [hi] at hv;cases x <;> cases y <;> simp only [Compat] at hcomp hv ⊢
   exact ⟨by omega,λh=>by omega⟩
  ·rw [yv hij,yv hij];split at hv
   ·refine ⟨hv.1,λhn=>?_⟩;obtain ⟨b,o,cap,h1,h2,h3⟩:=hv.2 hn;exact ⟨b,o,cap,h1,h2,h3.fr hfr (λe=>hij (hap i j b (by rw [hc,hW b e]) h1)) hWA hA⟩
   ·trivial
   ·exact hv.elim
 | .qel j m q,v,hv=>by
  simp only [V.rep] at hv ⊢;by_cases hij:i=j
  ·subst hij;rw [yt (yb.1 hi).1];rw [hi] at hv;cases x <;> cases y <;> simp only [Compat] at hcomp hv ⊢
   exact ⟨by omega,λh=>by omega⟩
  ·rw [yv hij,yv hij];split at hv
   ·refine ⟨hv.1,λhn=>?_⟩;obtain ⟨b,o,cap,h1,h2,hq,h3⟩:=hv.2 hn;exact ⟨b,o,cap,h1,h2,hq,h3.fr hfr (λe=>hij (hap i j b (by rw [hc,hW b e]) h1)) hWA hA⟩
   ·trivial
   ·exact hv.elim
 | .junk,_,_=>by simp only [V.rep]
theorem V.reps_upd (hi:H[i]? = some x) (hc:bs[i]? = some c) (hcomp:Compat A A' w w' x c y c') (hap:∀ (p q:Nat) (b:Nat),bs[p]? = some (some b)→bs[q]? = some (some b)→p=q) (hfr:Fr W w w') (hWA:∀ b,W b→A b) (hW:∀ b,W b→c=some b)
  (hA:∀ b,b<w.heap.size→A' b→A b):∀ (zs:List V) (vs:List Value),V.reps A w bs H zs vs→V.reps A' w' (bs.set i c') (H.set i y) zs vs
 | [],vs,hv=>by simpa only [V.reps] using hv
 | z::zs,vs,hv=>by
  simp only [V.reps] at hv ⊢;obtain ⟨v,vs',e,h1,h2⟩:=hv;exact ⟨v,vs',e,V.rep_upd hi hc hcomp hap hfr hWA hW hA z v h1,V.reps_upd hi hc hcomp hap hfr hWA hW hA zs vs' h2⟩
end
end
theorem R.upd {C bs T H a w w' i x y c c'} (h:R C bs ⟨T,H⟩ a w) (hi:H[i]? = some x) (hc:bs[i]? = some c) (hcomp:Compat (Own C.A0 bs) (Own C.A0 (bs.set i c')) w w' x c y c')
  (hfr:Fr (λb=>c=some b) w w') (hc':c'=c∨c'=none∨∃ b,c'=some b∧w.heap.size≤b∧b<w'.heap.size)
  (hy:y.rep (Own C.A0 (bs.set i c')) w' (bs.set i c') (H.set i y) i):R C (bs.set i c') ⟨T,H.set i y⟩ a w':=by
 have hib:=(yb.1 hc).1;have hmem:∀ b,some b∈bs.set i c'→some b∈bs∨(c'=some b∧w.heap.size≤b∧b<w'.heap.size):=by
  intro b hb;rcases List.mem_or_eq_of_mem_set hb with hb | hb
  ·exact .inl hb
  ·rcases hc' with e | e | ⟨b',e,h1,h2⟩
   ·left;rw [hb,e];exact yu hc
   ·rw [e] at hb;cases hb
   ·rw [e] at hb;cases hb;exact .inr ⟨e,h1,h2⟩
 have hA:∀ b,b<w.heap.size→Own C.A0 (bs.set i c') b→Own C.A0 bs b:=λb hb hb'=>by
  rcases hb' with hb' | hb'
  ·exact .inl hb'
  ·rcases hmem b hb' with h | ⟨_,h,_⟩
   ·exact .inr h
   ·omega
 have hWA:∀ b,c=some b→Own C.A0 bs b:=λb hb=>.inr (by rw [← hb];exact yu hc)
 have hget:∀ p b,(bs.set i c')[p]? = some (some b)→(p≠i∧bs[p]? = some (some b))∨(p=i∧c'=some b):=by
  intro p b hp;by_cases hpi:i=p
  ·subst hpi;rw [yt hib] at hp;exact .inr ⟨rfl,by simpa using hp⟩
  ·rw [yv hpi] at hp;exact .inl ⟨λh=>hpi h.symm,hp⟩
 have hci:∀ b,c'=some b→bs[i]? = some (some b)∨w.heap.size≤b:=by
  intro b hb;rcases hc' with e | e | ⟨b',e,h1,h2⟩
  ·left;rw [hc,← e,hb]
  ·rw [e] at hb;cases hb
  ·rw [e] at hb;cases hb;exact .inr h1
 refine ⟨⟨λp q b hp hq=>?_,λb hb=>?_,λb hb=>?_,λb hb=>yL (h.own.foreign b hb) hfr.size,h.own.glob.fr hfr hWA hA⟩,by simpa using h.len,λj k hk=>?_,λt v hv=>⟨(h.tmp t v hv).1,V.rep_upd hi hc hcomp h.own.apart hfr hWA (λb hb=>hb) hA v _ (h.tmp t v hv).2⟩,h.defers,h.size,?_,λb hb=>?_,λp hp=>⟨(h.gh p hp).1,V.rep_upd hi hc hcomp h.own.apart hfr hWA (λb hb=>hb) hA p.1 _ (h.gh p hp).2⟩⟩
 ·rcases hget p b hp with ⟨p1,p2⟩ | ⟨p1,p2⟩ <;> rcases hget q b hq with ⟨q1,q2⟩ | ⟨q1,q2⟩
  ·exact h.own.apart p q b p2 q2
  ·rcases hci b q2 with e | e
   ·exact absurd (h.own.apart p i b p2 e) p1
   ·have:=h.own.lt b (yu p2);omega
  ·rcases hci b p2 with e | e
   ·exact absurd (h.own.apart q i b q2 e) q1
   ·have:=h.own.lt b (yu q2);omega
  ·rw [p1,q1]
 ·rcases hmem b hb with h1 | ⟨_,h1,_⟩
  ·exact h.own.not b h1
  ·exact λh2=>absurd (h.own.foreign b h2) (by omega)
 ·rcases hmem b hb with h1 | ⟨_,_,h1⟩
  ·exact yL (h.own.lt b h1) hfr.size
  ·exact h1
 ·simp only at hk;by_cases hij:i=j
  ·subst hij;rw [yt (yb.1 hi).1] at hk;cases hk;exact hy
  ·rw [yv hij] at hk;have hx:=h.blk j k hk;have hne:∀ b,bs[j]? = some (some b)→¬ (c=some b):=λb hb e=>hij (h.own.apart i j b (by rw [hc,e]) hb)
   cases k with
   | box t cs=>
    simp only [Blk.rep] at hx ⊢;obtain ⟨b,vs,e1,e2,e3⟩:=hx;exact ⟨b,vs,by rw [yv hij];exact e1,by rw [hfr.block b (ym.1 e2).1 (hne b e1)];exact e2,V.reps_upd hi hc hcomp h.own.apart hfr hWA (λb hb=>hb) hA cs _ e3⟩
   | arr t k xs=>
    simp only [Blk.rep] at hx ⊢;obtain ⟨b,vs,e1,e2,e3⟩:=hx;exact ⟨b,vs,by rw [yv hij];exact e1,by rw [hfr.block b (ym.1 e2).1 (hne b e1)];exact e2,D.flat_fr hfr hWA hA xs _ e3⟩
   | mp bo ks ds clock=>
    simp only [Blk.rep] at hx ⊢;obtain ⟨b,es,e1,e2,e3,e4,e5⟩:=hx;exact ⟨b,es,by rw [yv hij];exact e1,by rw [hfr.block b (ym.1 e2).1 (hne b e1)];exact e2,e3,e4,D.reps_fr hfr hWA hA ds _ e5⟩
   | it q since seen last=>
    simp only [Blk.rep] at hx ⊢;by_cases hiq:i=q
    ·subst hiq;rw [yt (yb.1 hi).1,yv hij];rw [hi] at hx;cases x <;> cases y <;> simp only [Compat] at hcomp hx ⊢
     obtain ⟨b,m,e1,e2,e3⟩:=hx;exact ⟨b,m,e1,by rw [yt hib,hcomp,← hc];exact e2,by rw [hfr.block b (ym.1 e3).1 (hne b e1)];exact e3⟩
    ·rw [yv hiq,yv hij,yv hiq];split at hx
     ·rename_i he;obtain ⟨b,m,e1,e2,e3⟩:=hx;exact ⟨b,m,e1,e2,by rw [hfr.block b (ym.1 e3).1 (hne b e1)];exact e3⟩
     ·trivial
     ·exact hx.elim
   | itd bo ks ds clock since seen last=>
    simp only [Blk.rep] at hx ⊢;obtain ⟨b,mb,es,e1,e2,e3,e4,e5,e6,e7,e8⟩:=hx;exact ⟨b,mb,es,by rw [yv hij];exact e1,λe=>e2 (hA mb e3 e),yL e3 hfr.size,by rw [hfr.block mb e3 (λe=>e2 (hWA mb e))];exact e4,e5,e6,D.reps_fr hfr hWA hA ds _ e7,by rw [hfr.block b (ym.1 e8).1 (hne b e1)];exact e8⟩
   | vec t k xs=>trivial
   | que s t k xs=>trivial
   | dead=>trivial
 ·refine ⟨hfr.os.trans h.fr.os,hfr.tape.trans h.fr.tape,hfr.output.trans h.fr.output,ue h.fr.size hfr.size,λb hb hno=>?_,λd=>ue (h.fr.drawn d) (hfr.drawn d)⟩;have hbw:=yL hb h.fr.size;refine (hfr.block b hbw λe=>?_).trans (h.fr.block b hb hno);rcases h.new b (by rw [← e];exact yu hc) with h1 | h1
  ·exact hno h1
  ·omega
 ·rcases hmem b hb with h1 | ⟨_,h1,_⟩
  ·exact h.new b h1
  ·right;have:=h.fr.size;omega
def zbW (P:Program) (t el:TypeId) (k bytes:Nat):Bool:=
 (match P.underlying t with | some (.slice e)=>e==el | _=>false)&&Nat.blt 0 k &&
 (match P.info? el with | some i=>i.size==k&&i.bytes==bytes&&(match i.zero with | some z=>z.cells.size==k | none=>false) | none=>false)
theorem zco {P t el k bytes} (h:zbW P t el k bytes=true):P.underlying t=some (.slice el)∧0<k∧∃ i z,P.info? el=some i∧i.zero=some z∧i.size=k∧i.bytes=bytes∧z.cells.size=k:=by
 unfold zbW at h;simp only [yc] at h;obtain ⟨⟨h1,h2⟩,h3⟩:=h;refine ⟨?_,by simpa using h2,?_⟩
 ·cases hu:P.underlying t with
  | none=>simp [hu] at h1
  | some d=>cases d <;> simp [hu] at h1;rw [h1]
 ·cases hi:P.info? el with
  | none=>simp [hi] at h3
  | some i=>
   simp only [hi,yc,beq_iff_eq] at h3;cases hz:i.zero with
   | none=>simp [hz] at h3
   | some z=>simp only [hz,beq_iff_eq] at h3;exact ⟨i,z,rfl,hz,h3.1.1,h3.1.2,h3.2⟩
theorem run_append_where {P} (w t ty e) (i:TypeInfo) (z size bytes) (ht:P.underlying t=some (.slice e)) (hi:P.info? e=some i) (hz:i.zero=some z)
  (hsize:i.size=size) (hby:i.bytes=bytes) (hzs:z.cells.size=size) (_hsz:0<size)
  (v:Value) (n:Nat) (xs:List Value) (hown:w.ownsRow 0 e size v n xs)
  (a:Addr) (m c:Nat) (news:List Value) (hl:news.length=m*size) (hnews:∀ j u,news[j]? = some u→w.cell? (a.add j)=some u) (h1:∀ u∈news,u.oneCell'=true) (hm0:0<m)
  (h63:n+m≤maxLen) (hbytes:(n+m)*bytes≤140737488355328) :
  ∃ v' w',(Builtin.append_ #[t,t] ty #[v,.slice (some a) m c]).run P w = .ok v' w'∧w'.ownsRow 0 e size v' (n+m) (xs++news)∧w.grownBy w' v.ownBlock ∧
   (v'.ownBlock=v.ownBlock∨v'.ownBlock=some w.heap.size)∧w.drawn≤w'.drawn:=by
 subst hsize;subst hby;have hsmall:n+m≤9223372036854775807:=by simp only [maxLen] at h63;omega
 have hlen:(xs++news).length=(n+m)*i.size:=by rw [yG,hown.1,hl,Nat.add_mul]
 have grown:∀ (old:Nat),old<n+m→∀ (row:Option Nat),
   (w.drew.alloc (.cells (xs.toArray++news.toArray++Builtin.zeroCells z.cells (grownCap w (n+m) old e - (n+m))) e)).ownsRow 0 e i.size
    (.slice (some ⟨w.heap.size,0,none⟩) (n+m) (grownCap w (n+m) old e)) (n+m) (xs++news) ∧
   w.grownBy (w.drew.alloc (.cells (xs.toArray++news.toArray++Builtin.zeroCells z.cells (grownCap w (n+m) old e - (n+m))) e)) row:=by
  intro old ho row;have hge:=grownCap_ge w (n+m) old e;have hcm:grownCap w (n+m) old e≤maxLen:=grownCap_le_maxLen w (n+m) old e h63;refine ⟨⟨hlen,.inr ⟨w.heap.size,_,_,rfl,yp _,heap_alloc_new w.drew _,hge,hcm,?_,?_⟩⟩,⟨rfl,rfl,rfl,by simp,λk hk _=>Below.heap_alloc w.drew _ k hk⟩⟩
  ·simp only [Array.size_append,uF,size_zeroCells,hzs,hown.1,hl,← Nat.add_mul];congr 1;omega
  ·simp only [Array.toList_append,yB];rw [← yB,← hlen];exact List.take_left
 rcases hown.2 with ⟨rfl,rfl⟩ | ⟨g,cap,cur,rfl,hbg,hg,hnc,hcm,hcs,htake⟩
 ·have hx:xs=[]:=yW (by simpa using hown.1);subst hx;have hr:=run_append_nil (P:=P) w t ty e i z ht hi hz a m c news hl hnews (by omega) (by omega) (by have hb:=hbytes;simp only [uq] at hb;omega);have hgr:=grown 0 (by omega) (Value.ownBlock (.slice none 0 0));simp only [uq,yV,Array.empty_append] at hgr ⊢;exact ⟨_,_,hr,hgr.1,hgr.2,.inr rfl,Nat.le_succ _⟩
 ·by_cases hroom:n+m≤cap
  ·have hfit:n*i.size+news.length≤cur.size:=by rw [hl,hcs,← Nat.add_mul];exact yZ _ hroom
   have hr:=run_append_room (P:=P) w t ty e i ht hi g n cap cur hg a m c news hl hnews h1 hroom hfit;refine ⟨_,_,hr,⟨hlen,.inr ⟨g,cap,_,rfl,hbg,setRow_heap w g cur _ e _ hg,hroom,hcm,?_,?_⟩⟩,⟨rfl,rfl,rfl,by simp,λk _ hk=>setRow_other w g k _ (λe=>hk (by simp [Value.ownBlock,e]))⟩,.inl rfl,yn _⟩
   ·simp only [uF,yG,yR,ua,yC];omega
   ·rw [htake,← hlen];exact List.take_left
  ·have holds:∀ j u,xs[j]? = some u→w.cell? ((⟨g,0,none⟩:Addr).add j)=some u:=hown.cells (g:=g) rfl;have hr:=run_append_grow (P:=P) w t ty e i z ht hi hz ⟨g,0,none⟩ n cap xs hown.1 holds a m c news hl hnews (by omega) (by omega) (growslice_fits (by omega) hbytes);have hgr:=grown cap (by omega) (Value.ownBlock (.slice (some ⟨g,0,none⟩) n cap));exact ⟨_,_,hr,hgr.1,hgr.2,.inr rfl,Nat.le_succ _⟩
theorem TriL.append {P:Program} {C:Ctx} {ops:Array Oper} {o:Oper} {rest:List Oper} {Q:Exit→St→Prop} {T:List (Nat×V)} {H:List Blk} {x y:Operand} {t el:TypeId} {i n k bytes d:Nat} {xs ys:List D}
  (hg:o.guard=none) (ho:o.op = .call { callee:=.builtin .append,args:=#[x,y],argTypes:=#[t,t] }) (hd:o.dst=some d) (hdn:Nat.blt d C.n=true)
  (hx:ev T x=some (.vec i n)) (hi:H[i]? = some (.vec el k xs)) (hn:n=xs.length) (hy:ev T y=some (.d (.sl k ys))) (ht:zbW P t el k bytes=true) (hne:ys≠[]) (hones:∀ z∈ys,z.ones=true)
  (hsz:(xs.length+ys.length)*bytes≤140737488355328) (hml:xs.length+ys.length≤maxLen)
  (kk:TriL P C ops rest Q ⟨(d,.vec i (xs.length+ys.length))::T,H.set i (.vec el k (xs++ys))⟩):TriL P C ops (o::rest) Q ⟨T,H⟩:=by
 subst hn;obtain ⟨htu,hk0,inf,z,hinf,hz,hisz,hib,hzc⟩:=zco ht;refine TriL.step hg (λbs a w hR=>?_) kk;have hlt:d<a.tmps.size:=by rw [hR.size];simpa using hdn
 have h1:=hR.ev hx;have h2:=hR.ev hy;simp only [V.rep,hi] at h1;obtain ⟨_,h1⟩:=h1;obtain ⟨cells,hown,hbs,hflat⟩:=h1 trivial;simp only [V.rep,D.rep] at h2;obtain ⟨ad,cap,hv2,_,hrow⟩:=h2;rcases hrow with hrow | ⟨b,off,rfl,hnb,hblt,hrow⟩
 ·exact absurd hrow hne
 ·obtain ⟨news,hf2,hnews⟩:=D.row_flat ys off hrow;obtain ⟨v',w',hrun,hown',hgrow,hwhere,hdrawn⟩:=run_append_where (P:=P) w t o.type el inf z k bytes htu hinf hz hisz hib hzc hk0 (a.eval x) xs.length cells hown ⟨b,off,none⟩ ys.length cap news (D.flat_len hf2)
   (λj u hu=>by rw [Addr.add_mid];exact hnews j u hu) (D.flat_ones hones hf2) (List.length_pos_iff.2 hne) hml hsz
  have hfr:Fr (λb=>(a.eval x).ownBlock=some b) w w':=⟨hgrow.os,hgrow.tape,hgrow.output,hgrow.size,λc hc hno=>hgrow.block c hc (λh=>hno h.symm),λ_=>hdrawn⟩
  have hc':v'.ownBlock=(a.eval x).ownBlock∨v'.ownBlock=none∨∃ b,v'.ownBlock=some b∧w.heap.size≤b∧b<w'.heap.size:=by
   rcases hwhere with h | h
   ·exact .inl h
   ·exact .inr (.inr ⟨w.heap.size,h,yn _,(hown'.lt _ h).2⟩)
  have hlen:xs.length<(xs++ys).length:=by rw [yG];have:=List.length_pos_iff.2 hne;omega
  have hR':=R.upd (y:=.vec el k (xs++ys)) (c':=v'.ownBlock) hR hi hbs (by simp only [Compat];exact .inl hlen) hfr hc' (by simp only [Blk.rep]);refine ⟨.value v',w',bs.set i v'.ownBlock,?_,.inl ⟨v',rfl,?_⟩⟩
  ·simp only [execOp,ho,resolve,invoke,builtin,Sem.run_bind,Sem.run_pure,Result.andThen_ok];simp only [List.map_toArray,yM,List.map_nil];rw [hv2,hrun];rfl
  ·have hil:=(yb.1 hi).1;have hibs:=(yb.1 hbs).1;have hA:∀ c,c<w.heap.size→Own C.A0 (bs.set i v'.ownBlock) c→Own C.A0 bs c:=λc hc hc2=>by
    rcases hc2 with hc2 | hc2
    ·exact .inl hc2
    ·rcases List.mem_or_eq_of_mem_set hc2 with hc2 | hc2
     ·exact .inr hc2
     ·rcases hwhere with h | h
      ·right;rw [hc2,h];exact yu hbs
      ·rw [h] at hc2;cases hc2;omega
   have hWA:∀ c,(a.eval x).ownBlock=some c→Own C.A0 bs c:=λc hc=>.inr (by rw [← hc];exact yu hbs)
   have hrep:V.rep (Own C.A0 (bs.set i v'.ownBlock)) w' (bs.set i v'.ownBlock) (H.set i (.vec el k (xs++ys))) (.vec i (xs.length+ys.length)) v':=by
    simp only [V.rep];rw [yt hil];refine ⟨by simp,λ_=>⟨cells++news,hown',by rw [yt hibs],D.flat_append (D.flat_fr hfr hWA hA _ _ hflat) (D.flat_fr hfr hWA hA _ _ hf2)⟩⟩
   have:=R.put hR' (Fr.refl _ _) (some d) (by simpa [dstOK] using hdn) hrep;rw [hd];exact this
end
section
variable [Globs] [Drw]
theorem R.snocNone {C bs T H a w k} (h:R C bs ⟨T,H⟩ a w) (hk:∀ bs' H' i,k.rep (Own C.A0 bs') w bs' H' i):R C (bs++[none]) ⟨T,H++[k]⟩ a w:=by
 have hlen:=h.len;simp only at hlen;have hmem:∀ b,some b∈bs++[none]→some b∈bs:=λb hb=>by
  rcases yK.1 hb with hb | hb
  ·exact hb
  ·simp at hb
 have hget:∀ (p:Nat) (b:Nat),(bs++[none])[p]? = some (some b)→bs[p]? = some (some b):=by
  intro p b hp;rcases uA p bs.length with h1 | h1
  ·rwa [yg h1] at hp
  ·rw [yD h1] at hp;have:=(yb.1 hp).1;have e:p - bs.length=0:=by simp at this;omega
   rw [e] at hp;simp at hp
 have hA:∀ b,b<w.heap.size→Own C.A0 (bs++[none]) b→Own C.A0 bs b:=λb _ hb=>hb.imp id (hmem b)
 refine ⟨⟨λp q b hp hq=>h.own.apart p q b (hget p b hp) (hget q b hq),λb hb=>h.own.not b (hmem b hb),λb hb=>h.own.lt b (hmem b hb),h.own.foreign,h.own.glob.fr (Fr.refl zd w) (λ_ x=>x.elim) hA⟩,by simp [hlen],λi x hx=>?_,λt v hv=>⟨(h.tmp t v hv).1,V.rep_snoc hlen hA v _ (h.tmp t v hv).2⟩,h.defers,h.size,h.fr,λb hb=>h.new b (hmem b hb),λp hp=>⟨(h.gh p hp).1,V.rep_snoc hlen hA p.1 _ (h.gh p hp).2⟩⟩;simp only at hx;rcases uA i H.length with h1 | h1
 ·rw [yg h1] at hx;exact Blk.rep_snoc hlen hA i x (h.blk i x hx)
 ·rw [yD h1] at hx;have:=(yb.1 hx).1;have e:i - H.length=0:=by simp at this;omega
  rw [e] at hx;simp at hx;subst hx;exact hk _ _ _
theorem R.know {C bs T H a w t v} (h:R C bs ⟨T,H⟩ a w) (ht:t<C.n) (hv:V.rep (Own C.A0 bs) w bs H v (a.tmps.getD t Go.undef)):R C bs ⟨(t,v)::T,H⟩ a w:=by
 refine ⟨h.own,h.len,h.blk,λu x hx=>?_,h.defers,h.size,h.fr,h.new,h.gh⟩;simp only [zbc] at hx;split at hx <;> rename_i e
 ·cases hx;subst e;exact ⟨ht,hv⟩
 ·exact h.tmp u x hx
abbrev V.nilS:V:=.d (.val (.slice none 0 0))
theorem R.nilVec {C bs T H a w t k el} (h:R C bs ⟨T,H⟩ a w) (ht:look t T=some .nilS):R C (bs++[none]) ⟨(t,.vec H.length 0)::T,H++[.vec el k []]⟩ a w:=by
 obtain ⟨hn,hv⟩:=h.tmp t _ ht;have hv:=zr.1 hv;refine R.know (h.snocNone λ_ _ _=>by simp only [Blk.rep]) hn ?_;have hlen:=h.len;simp only at hlen;simp only [V.rep];rw [yD (yn _)];simp only [uI,y6];refine ⟨yn _,λ_=>⟨[],?_,?_,by simp [D.flat]⟩⟩
 ·rw [hv];exact World.ownsRow_nil w 0 el k
 ·rw [hv,← hlen];simp [Value.ownBlock]
theorem Tri.nilVec {P C c Q T H} (t k el) (ht:look t T=some .nilS) (h:Tri P C c Q ⟨(t,.vec H.length 0)::T,H++[.vec el k []]⟩):Tri P C c Q ⟨T,H⟩:=
 ⟨λ_ a w hR=>h.run _ a w (hR.nilVec ht)⟩
theorem TriL.nilVec {P C ops rest Q T H} (t k el) (ht:look t T=some .nilS) (h:TriL P C ops rest Q ⟨(t,.vec H.length 0)::T,H++[.vec el k []]⟩):TriL P C ops rest Q ⟨T,H⟩:=
 ⟨λ_ a w hR=>h.run _ a w (hR.nilVec ht)⟩
mutual
inductive FrzI (H:List Blk) (ids:List Nat):V→D→Prop
 | d (x:D):FrzI H ids (.d x) x
 | vec {i n:Nat} {t:TypeId} {k:Nat} {xs:List D}:i∈ids→H[i]? = some (.vec t k xs)→n=xs.length→FrzI H ids (.vec i n) (.sl k xs)
 | sub {i n lo hi:Nat} {t:TypeId} {k:Nat} {xs:List D}:i∈ids→H[i]? = some (.vec t k xs)→n=xs.length→FrzI H ids (.sub i n lo hi) (.sl k ((xs.drop lo).take (hi - lo)))
 | arr {i off n:Nat} {t:TypeId} {k:Nat} {xs:List D}:i∈ids→H[i]? = some (.arr t k xs)→off+n≤xs.length→FrzI H ids (.arr i off n) (.sl k ((xs.drop off).take n))
 | agg {cs:List V} {ds:List D}:FrzIs H ids cs ds→FrzI H ids (.agg cs) (.agg ds)
 | loc {i:Nat} {t:TypeId} {cs:List V} {ds:List D}:i∈ids→H[i]? = some (.box t cs)→FrzIs H ids cs ds→FrzI H ids (.loc i 0) (.ref (.agg ds))
 | loc1 {i:Nat} {t:TypeId} {c:V} {d:D}:i∈ids→H[i]? = some (.box t [c])→FrzI H ids c d→d.shape=none→FrzI H ids (.loc i 0) (.ref d)
 | mp {i:Nat} {bo:List Nat} {ks:List Value} {ds:List D} {cl:Nat}:i∈ids→H[i]? = some (.mp bo ks ds cl)→wfM bo cl→FrzI H ids (.mp i) (.mp ks ds)
inductive FrzIs (H:List Blk) (ids:List Nat):List V→List D→Prop
 | nil:FrzIs H ids [] []
 | cons {x:V} {d:D} {xs:List V} {ds:List D}:FrzI H ids x d→FrzIs H ids xs ds→FrzIs H ids (x::xs) (d::ds)
end
section
variable {A0 A:Nat→Prop} {bs:List (Option Nat)} {H:List Blk} {w:World} {ids:List Nat}
mutual
theorem FrzI.rep (m:Mem A0 bs H w) (hA:∀ b,b<w.heap.size→A b→Own A0 bs b) (hids:∀ i b,i∈ids→bs[i]? = some (some b)→¬ A b):∀ {x:V} {d:D},FrzI H ids x d→∀ (v:Value),V.rep (Own A0 bs) w bs H x v→D.rep A w d v
 | _,_,.d x,v,hv=>by
  simp only [V.rep] at hv;exact D.rep_fr (Fr.refl zd w) (λ_ x=>x.elim) hA x v hv
 | _,_,.vec (i:=i) (t:=t) (k:=k) (xs:=xs) hin hi hn,v,hv=>by
  simp only [V.rep,hi] at hv;obtain ⟨cells,h1,h2,h3⟩:=hv.2 hn;have hl:=D.flat_len h3;simp only [D.rep];rcases h1.2 with ⟨rfl,hn0⟩ | ⟨g,cap,cur,rfl,_,hg,hcap,hcm,hcs,htake⟩
  ·exact ⟨none,0,by rw [← hn,hn0],by omega,.inl (yW (by omega))⟩
  ·refine ⟨some ⟨g,0,none⟩,cap,by rw [← hn],by omega,.inr ⟨g,0,rfl,hids i g hin (by simpa [Value.ownBlock] using h2),(ym.1 hg).1,D.row_of_flat hA xs cells 0 h3 λj u hu=>?_⟩⟩;have:=h1.cells (g:=g) rfl j u hu
   rwa [Addr.add_mid] at this
 | _,_,.sub (i:=i) (n:=n) (lo:=lo) (hi:=hh) (t:=t) (k:=k) (xs:=xs) hin hi hn,v,hv=>by
  simp only [V.rep,hi] at hv;obtain ⟨hdr,cells,h1,h2,h3,hlo,hhi,ad,cap,rfl,hcap,hne⟩:=hv.2 hn;have hlen:((xs.drop lo).take (hh - lo)).length=hh - lo:=by rw [yR,ua];omega
  simp only [D.rep];refine ⟨ad,cap,by rw [hlen],by rw [hlen];exact hcap,?_⟩;by_cases hlt:lo<hh
  ·obtain ⟨b,hb,rfl⟩:=hne hlt;rcases h1.2 with ⟨rfl,hn0⟩ | ⟨g,cp,cur,rfl,_,hg,hcp,hcm,hcs,htake⟩
   ·simp [Value.ownBlock] at hb
   ·obtain rfl:g=b:=by simpa [Value.ownBlock] using hb
    refine .inr ⟨g,lo*k,rfl,hids i g hin (by simpa [Value.ownBlock] using h2),(ym.1 hg).1,D.row_take _ _ _ ?_⟩;have h0:=D.row_of_flat (b:=g) hA xs cells 0 h3 λj u hu=>by
     have:=h1.cells (g:=g) rfl j u hu
     rwa [Addr.add_mid] at this
    have:=D.row_drop lo xs 0 h0;simpa using this
  ·refine .inl (yW (by rw [hlen];omega))
 | _,_,.arr (i:=i) (off:=off) (t:=t) (k:=k) (xs:=xs) hin hi hn,v,hv=>by
  simp only [V.rep,hi] at hv;obtain ⟨b,hb,ho,rfl⟩:=hv;have hblk:=m.blk i _ hi;simp only [Blk.rep] at hblk;obtain ⟨b',vs,hb',hh,hf⟩:=hblk;obtain rfl:b=b':=by rw [hb] at hb';simpa using hb'
  simp only [D.rep];refine ⟨_,_,by rw [yR,ua,Nat.min_eq_left (by omega)],by rw [yR,ua,Nat.min_eq_left (by omega)];omega,.inr ⟨b,_,rfl,hids i b hin hb,(ym.1 hh).1,?_⟩⟩;refine D.row_take _ _ _ ?_;have h0:=D.row_of_flat (b:=b) (A':=A) hA xs vs.toList 0 hf λj u hu=>by rw [zab hh];simpa using hu
  have:=D.row_drop off xs 0 h0;simpa using this
 | _,_,.agg h,v,hv=>by
  simp only [V.rep] at hv;obtain ⟨vs,rfl,hr⟩:=hv;simp only [D.rep];exact ⟨vs,rfl,FrzIs.reps m hA hids h _ hr⟩
 | _,_,.loc (i:=i) hin hi h,v,hv=>by
  simp only [V.rep,hi] at hv;obtain ⟨b,hb,rfl⟩:=hv;have hblk:=m.blk i _ hi;simp only [Blk.rep] at hblk;obtain ⟨b',vs,hb',hh,hf⟩:=hblk;obtain rfl:b=b':=by rw [hb] at hb';simpa using hb'
  simp only [D.rep];refine ⟨b,0,.agg vs,rfl,hids i b hin hb,(ym.1 hh).1,⟨vs,rfl,FrzIs.reps m hA hids h _ hf⟩,λj hj=>?_⟩;rw [zab hh];simp [Value.cells]
 | _,_,.mp (i:=i) hin hi hwf,v,hv=>by
  simp only [V.rep,hi] at hv;obtain ⟨b,hb,rfl⟩:=hv;have hblk:=m.blk i _ hi;simp only [Blk.rep] at hblk;obtain ⟨b',es,hb',hh,hbo,hk,hf⟩:=hblk;obtain rfl:b=b':=by rw [hb] at hb';simpa using hb'
  simp only [D.rep];exact ⟨b,es,_,rfl,hids i b hin hb,(ym.1 hh).1,hh,hk,by rw [hbo];exact hwf,D.reps_fr (Fr.refl zd w) (λ_ x=>x.elim) hA _ _ hf⟩
 | _,_,.loc1 (i:=i) hin hi h hs,v,hv=>by
  simp only [V.rep,hi] at hv;obtain ⟨b,hb,rfl⟩:=hv;have hblk:=m.blk i _ hi;simp only [Blk.rep] at hblk;obtain ⟨b',vs,hb',hh,hf⟩:=hblk;obtain rfl:b=b':=by rw [hb] at hb';simpa using hb'
  simp only [V.reps] at hf;obtain ⟨u,us,e,hu,e2⟩:=hf;subst e2;have hr:=FrzI.rep m hA hids h u hu;simp only [D.rep];refine ⟨b,0,u,rfl,hids i b hin hb,(ym.1 hh).1,hr,λj hj=>?_⟩;have hcu:=D.cells_of_one hr hs;rw [hcu] at hj ⊢;have hj0:j=0:=by simp at hj;omega
  subst hj0;rw [zab hh,← yY,e];simp
theorem FrzIs.reps (m:Mem A0 bs H w) (hA:∀ b,b<w.heap.size→A b→Own A0 bs b) (hids:∀ i b,i∈ids→bs[i]? = some (some b)→¬ A b):∀ {xs:List V} {ds:List D},FrzIs H ids xs ds→∀ (vs:List Value),V.reps (Own A0 bs) w bs H xs vs→D.reps A w ds vs
 | _,_,.nil,vs,hv=>by simpa only [V.reps,D.reps] using hv
 | _,_,.cons h hs,vs,hv=>by
  simp only [V.reps] at hv;obtain ⟨v,vs',rfl,r1,r2⟩:=hv;simp only [D.reps];exact ⟨v,vs',rfl,FrzI.rep m hA hids h v r1,FrzIs.reps m hA hids hs vs' r2⟩
end
end
theorem R.kill {C bs T H a w} (h:R C bs ⟨T,H⟩ a w) (i):R C (bs.set i none) ⟨T,H.set i .dead⟩ a w:=by
 cases hi:H[i]? with
 | none=>
  have hl:=h.len;simp only at hl;have:H.length≤i:=List.getElem?_eq_none_iff.1 hi;rw [List.set_eq_of_length_le this,List.set_eq_of_length_le (by omega)];exact h
 | some x=>
  have hl:=h.len;simp only at hl;have hib:i<bs.length:=by rw [hl];exact (yb.1 hi).1
  have hc:bs[i]? = some bs[i]:=yA hib;exact R.upd (y:=.dead) (c':=none) h hi hc (by cases x <;> simp [Compat]) (Fr.refl _ _) (.inr (.inl rfl)) (by simp only [Blk.rep])
def killAll:List Nat→List Blk→List Blk
 | [],H=>H
 | i::ids,H=>killAll ids (H.set i .dead)
def killBs:List Nat→List (Option Nat)→List (Option Nat)
 | [],bs=>bs
 | i::ids,bs=>killBs ids (bs.set i none)
theorem R.killAll {C T a w}:∀ (ids:List Nat) {bs:List (Option Nat)} {H:List Blk},R C bs ⟨T,H⟩ a w→R C (killBs ids bs) ⟨T,Go.Proofs.YtbnhmfnagdgcmaaGreatDoor.killAll ids H⟩ a w
 | [],_,_,h=>h
 | i::ids,_,_,h=>R.killAll ids (h.kill i)
theorem ziC:∀ (ids:List Nat) (bs:List (Option Nat)) (i b:Nat),(killBs ids bs)[i]? = some (some b)→i∉ids∧bs[i]? = some (some b)
 | [],_,_,_,h=>⟨by simp,h⟩
 | j::ids,bs,i,b,h=>by
  obtain ⟨h1,h2⟩:=ziC ids _ i b h;by_cases hij:j=i
  ·subst hij;rw [List.getElem?_set] at h2;simp only [if_true] at h2;split at h2 <;> cases h2
  ·rw [yv hij] at h2;exact ⟨by simp only [yI,not_or];exact ⟨λe=>hij e.symm,h1⟩,h2⟩
end
section
variable [Globs] [Drw]
inductive OneV (H:List Blk):V→Prop
 | d {x:D}:x.one=true→OneV H (.d x)
 | vec {i n:Nat} {t:TypeId} {k:Nat} {xs:List D}:H[i]? = some (.vec t k xs)→n=xs.length→OneV H (.vec i n)
 | arr {i off n:Nat} {t:TypeId} {k:Nat} {xs:List D}:H[i]? = some (.arr t k xs)→OneV H (.arr i off n)
 | loc {i off:Nat} {t:TypeId} {cs:List V}:H[i]? = some (.box t cs)→OneV H (.loc i off)
 | fn {f:Fn} {a b:List V}:OneV H (.fn f a b)
 | mp {i:Nat} {bo:List Nat} {ks:List Value} {ds:List D} {cl:Nat}:H[i]? = some (.mp bo ks ds cl)→OneV H (.mp i)
inductive OnesV (H:List Blk):List V→Prop
 | nil:OnesV H []
 | cons {v:V} {vs:List V}:OneV H v→OnesV H vs→OnesV H (v::vs)
section
variable {A:Nat→Prop} {w:World} {bs:List (Option Nat)} {H:List Blk}
theorem OneV.cell {x} (h:OneV H x) {v} (hv:V.rep A w bs H x v):v.oneCell'=true:=by
 cases h with
 | d h=>simp only [V.rep] at hv;exact D.one_cell hv h
 | vec hi hn=>
  simp only [V.rep,hi] at hv;obtain ⟨cells,h1,_⟩:=hv.2 hn;rcases h1.2 with ⟨rfl,_⟩ | ⟨g,cap,cur,rfl,_⟩ <;> rfl
 | arr hi=>simp only [V.rep,hi] at hv;obtain ⟨b,_,_,rfl⟩:=hv;rfl
 | loc hi=>simp only [V.rep,hi] at hv;obtain ⟨b,_,rfl⟩:=hv;rfl
 | fn=>simp only [V.rep] at hv;obtain ⟨_,_,rfl,_⟩:=hv;rfl
 | mp hi=>simp only [V.rep,hi] at hv;obtain ⟨b,_,rfl⟩:=hv;rfl
theorem OnesV.cells:∀ {xs:List V},OnesV H xs→∀ {vs:List Value},V.reps A w bs H xs vs→∀ c∈vs,c.oneCell'=true
 | _,.nil,vs,hv=>by simp only [V.reps] at hv;subst hv;simp
 | _,.cons h r,vs,hv=>by
  simp only [V.reps] at hv;obtain ⟨v,vs',rfl,h1,h2⟩:=hv;intro c hc;rcases yI.1 hc with rfl | hc
  ·exact h.cell h1
  ·exact r.cells h2 c hc
theorem V.reps_len:∀ {xs:List V} {vs:List Value},V.reps A w bs H xs vs→vs.length=xs.length
 | [],vs,h=>by simp only [V.reps] at h;simp [h]
 | x::xs,vs,h=>by simp only [V.reps] at h;obtain ⟨v,vs',rfl,_,h2⟩:=h;simp [V.reps_len h2]
theorem V.reps_append:∀ {xs ys:List V} {vs us:List Value},V.reps A w bs H xs vs→V.reps A w bs H ys us→V.reps A w bs H (xs++ys) (vs++us)
 | [],ys,vs,us,h,h'=>by simp only [V.reps] at h;subst h;simpa using h'
 | x::xs,ys,vs,us,h,h'=>by
  simp only [V.reps] at h;obtain ⟨v,vs',rfl,h1,h2⟩:=h;simp only [y7,V.reps];exact ⟨v,vs'++us,rfl,h1,V.reps_append h2 h'⟩
theorem V.reps_drop:∀ (n:Nat) {xs:List V} {vs:List Value},V.reps A w bs H xs vs→V.reps A w bs H (xs.drop n) (vs.drop n)
 | 0,_,_,h=>by simpa using h
 | n+1,[],vs,h=>by simp only [V.reps] at h;subst h;simp [V.reps]
 | n+1,x::xs,vs,h=>by simp only [V.reps] at h;obtain ⟨v,vs',rfl,_,h2⟩:=h;simpa using V.reps_drop n h2
theorem V.reps_take:∀ (n:Nat) {xs:List V} {vs:List Value},V.reps A w bs H xs vs→V.reps A w bs H (xs.take n) (vs.take n)
 | 0,_,_,h=>by simp [V.reps]
 | n+1,[],vs,h=>by simp only [V.reps] at h;subst h;simp [V.reps]
 | n+1,x::xs,vs,h=>by
  simp only [V.reps] at h;obtain ⟨v,vs',rfl,h1,h2⟩:=h;simp only [List.take_succ_cons,V.reps];exact ⟨v,_,rfl,h1,V.reps_take n h2⟩
theorem V.reps_get:∀ {xs:List V} {vs:List Value},V.reps A w bs H xs vs→∀ (i:Nat) (x:V),xs[i]? = some x→∃ v,vs[i]? = some v∧V.rep A w bs H x v
 | [],vs,h,i,x,hx=>by simp at hx
 | y::xs,vs,h,0,x,hx=>by
  simp only [V.reps] at h;obtain ⟨v,vs',rfl,h1,_⟩:=h;simp at hx;subst hx;exact ⟨v,by simp,h1⟩
 | y::xs,vs,h,i+1,x,hx=>by
  simp only [V.reps] at h;obtain ⟨v,vs',rfl,_,h2⟩:=h;simpa using V.reps_get h2 i x (by simpa using hx)
theorem V.reps_d:∀ {ds:List D} {vs:List Value},V.reps A w bs H (ds.map .d) vs↔D.reps A w ds vs
 | [],vs=>by simp [V.reps,D.reps]
 | x::ds,vs=>by
  simp only [yM,V.reps,D.reps];refine ⟨λ⟨v,vs',e,h1,h2⟩=>⟨v,vs',e,by simpa only [V.rep] using h1,V.reps_d.1 h2⟩,λ⟨v,vs',e,h1,h2⟩=>⟨v,vs',e,by simpa only [V.rep] using h1,V.reps_d.2 h2⟩⟩
theorem V.cells_rep {x v} (hv:V.rep A w bs H x v) (h1:OnesV H x.cellsV):V.reps A w bs H x.cellsV v.cells.toList:=by
 have one:∀ (x:V),x.cellsV=[x]→OnesV H x.cellsV→V.rep A w bs H x v→V.reps A w bs H x.cellsV v.cells.toList:=by
  intro x hc h1 hv;rw [hc] at h1 ⊢;cases h1 with
  | cons h _=>
   have:=h.cell hv;have hcells:v.cells = #[v]:=by cases v <;> first | rfl | cases this
   simp only [V.reps,hcells];exact ⟨v,[],rfl,hv,rfl⟩
 cases x with
 | d x=>
  cases x with
  | agg ds=>
   simp only [V.rep,D.rep] at hv;obtain ⟨vs,rfl,hr⟩:=hv;simp only [V.cellsV,Value.cells];exact V.reps_d.2 hr
  | val y=>
   cases y with
   | agg vs=>
    simp only [V.rep,D.rep] at hv;subst hv;simp only [V.cellsV,Value.cells];exact zic _
   | _=>exact one _ rfl h1 hv
  | _=>exact one _ rfl h1 hv
 | agg cs=>
  simp only [V.rep] at hv;obtain ⟨vs,rfl,hr⟩:=hv;simpa only [V.cellsV,Value.cells] using hr
 | _=>exact one _ rfl h1 hv
end
def cellsOf (P:Program) (t:TypeId):Option Nat:=(P.info? t).map (·.size)
theorem TriL.alloc {P:Program} {C:Ctx} {ops:Array Oper} {o:Oper} {rest:List Oper} {Q:Exit→St→Prop} {T:List (Nat×V)} {H:List Blk} {t:TypeId} {r:Nat} {z:Value}
  (hg:o.guard=none) (ho:o.op = .alloc t) (hd:o.dst=some r) (hn:Nat.blt r C.n=true) (hz:zb3 P t=some z)
  (k:TriL P C ops rest Q ⟨(r,.loc H.length 0)::T,H++[.box t (z.cells.toList.map λv=>.d (.val v))]⟩):TriL P C ops (o::rest) Q ⟨T,H⟩:=by
 refine TriL.step hg (λbs a w hR=>?_) k;have hlt:r<a.tmps.size:=by rw [hR.size];simpa using hn
 have hrun:(execOp a.eval o).run P w = .ok (.value (.pointer (some ⟨w.heap.size,0,none⟩))) (w.alloc (.cells z.cells t)):=by
  unfold zb3 at hz;cases hi:P.info? t with
  | none=>simp [hi] at hz
  | some inf=>
   simp only [hi] at hz;simp only [execOp,ho,Instr.alloc,zeroValue,typeInfo,program,newVar,newRow,newObj,Sem.run_bind,Sem.run,hi,hz,Sem.run_pure,Result.andThen_ok];rfl
 have hfr:Fr zd w (w.alloc (.cells z.cells t)):=⟨rfl,rfl,rfl,by simp,λb hb _=>Below.heap_alloc w _ b hb,λ_=>yn _⟩
 have hA0:¬ C.A0 w.heap.size:=λh=>absurd (hR.own.foreign _ h) (by omega)
 have h1:R { C with A0:=λc=>C.A0 c∨c=w.heap.size } bs ⟨T,H⟩ a (w.alloc (.cells z.cells t)):=
  hR.own_more (A:=λc=>C.A0 c∨c=w.heap.size) hfr (λb hb hb'=>hb'.elim id (λe=>by omega)) (λb hb=>by
   rcases hb with hb | rfl
   ·exact yL (hR.own.foreign b hb) hfr.size
   ·simp)
 have h2:=R.adopt (C:=C) (cs:=z.cells.toList.map λv=>.d (.val v)) (vs:=z.cells) h1 (heap_alloc_new w _) hA0 hR.fr.size (zic _);have hlen:=hR.len;simp only at hlen;refine ⟨_,_,bs++[some w.heap.size],hrun,.inl ⟨_,rfl,?_⟩⟩;have:=h2.put (Fr.refl _ _) (some r) (by simpa [dstOK] using hn) (v:=.loc H.length 0) (u:=.pointer (some ⟨w.heap.size,0,none⟩)) (by
  simp only [V.rep];rw [yD (yn _)];simp only [uI,y6];exact ⟨w.heap.size,by rw [← hlen];simp,rfl⟩)
 rw [hd];exact this
theorem TriL.box {P:Program} {C:Ctx} {ops:Array Oper} {o:Oper} {rest:List Oper} {Q:Exit→St→Prop} {T:List (Nat×V)} {H:List Blk} {t:TypeId} {x:Operand} {r:Nat} {v:V}
  (hg:o.guard=none) (ho:o.op = .box t x) (hd:o.dst=some r) (hn:Nat.blt r C.n=true) (hx:ev T x=some v) (h1v:OnesV H v.cellsV)
  (k:TriL P C ops rest Q ⟨(r,.loc H.length 0)::T,H++[.box t v.cellsV]⟩):TriL P C ops (o::rest) Q ⟨T,H⟩:=by
 refine TriL.step hg (λbs a w hR=>?_) k;have hlt:r<a.tmps.size:=by rw [hR.size];simpa using hn
 have hrun:(execOp a.eval o).run P w = .ok (.value (.pointer (some ⟨w.heap.size,0,none⟩))) (w.alloc (.cells (a.eval x).cells t)):=by
  simp only [execOp,ho,Instr.box,newVar,newRow,newObj,Sem.run_bind,Sem.run_pure];rfl
 have hfr:Fr zd w (w.alloc (.cells (a.eval x).cells t)):=⟨rfl,rfl,rfl,by simp,λb hb _=>Below.heap_alloc w _ b hb,λ_=>yn _⟩
 have hA0:¬ C.A0 w.heap.size:=λh=>absurd (hR.own.foreign _ h) (by omega)
 have h1:R { C with A0:=λc=>C.A0 c∨c=w.heap.size } bs ⟨T,H⟩ a (w.alloc (.cells (a.eval x).cells t)):=
  hR.own_more (A:=λc=>C.A0 c∨c=w.heap.size) hfr (λb hb hb'=>hb'.elim id (λe=>by omega)) (λb hb=>by
   rcases hb with hb | rfl
   ·exact yL (hR.own.foreign b hb) hfr.size
   ·simp)
 have hcs:=V.cells_rep (h1.ev hx) h1v;have h2:=R.adopt (C:=C) (cs:=v.cellsV) (vs:=(a.eval x).cells) h1 (heap_alloc_new w _) hA0 hR.fr.size hcs;have hlen:=hR.len;simp only at hlen;refine ⟨_,_,bs++[some w.heap.size],hrun,.inl ⟨_,rfl,?_⟩⟩;have:=h2.put (Fr.refl _ _) (some r) (by simpa [dstOK] using hn) (v:=.loc H.length 0) (u:=.pointer (some ⟨w.heap.size,0,none⟩)) (by
  simp only [V.rep];rw [yD (yn _)];simp only [uI,y6];exact ⟨w.heap.size,by rw [← hlen];simp,rfl⟩)
 rw [hd];exact this
theorem TriL.store {P C ops o rest Q T H t bt x y i off n v cs}
  (hg:o.guard=none) (ho:o.op = .store t x y) (hd:o.dst=none) (hx:ev T x=some (.loc i off)) (hi:H[i]? = some (.box bt cs)) (hy:ev T y=some v) (h1v:OnesV H v.cellsV)
  (hs:cellsOf P t=some n) (hn:v.cellsV.length=n) (hfit:off+n≤cs.length)
  (k:TriL P C ops rest Q ⟨T,H.set i (.box bt (cs.take off++v.cellsV++cs.drop (off+n)))⟩):TriL P C ops (o::rest) Q ⟨T,H⟩:=by
 refine TriL.step hg (λbs a w hR=>?_) k;have h1:=hR.ev hx;simp only [V.rep,hi] at h1;obtain ⟨b,hb,hp⟩:=h1;have hblk:=hR.blk i _ hi;simp only [Blk.rep] at hblk;obtain ⟨b',vs,hb',hh,hreps⟩:=hblk;obtain rfl:b=b':=by rw [hb] at hb';simpa using hb'
 have hcr:=V.cells_rep (hR.ev hy) h1v;have hlen1:=V.reps_len hcr;have hlen2:=V.reps_len hreps;simp only [yC] at hlen1 hlen2;have hone:∀ c∈(a.eval y).cells.toList,c.oneCell'=true:=h1v.cells hcr;have hst:=run_storeCells_at P b off bt (a.eval y).cells.toList 0 vs w hh (by simp;omega) hone;simp only [uu,yC] at hst;unfold cellsOf at hs;cases hinf:P.info? t with
 | none=>simp [hinf] at hs
 | some inf=>
  simp only [hinf,yT,yh] at hs;have hsz:(a.eval y).cells.size=inf.size:=by omega
  have hrun:(execOp a.eval o).run P w = .ok .skip (w.setRow b (vs.toList.take off++(a.eval y).cells.toList++vs.toList.drop (off+(a.eval y).cells.size)).toArray):=by
   simp only [execOp,ho,hp,Instr.storeAt,Instr.sureAddr,storeVar,sizeOf,typeInfo,program,Sem.run_bind,Sem.run,hinf,Sem.run_pure,Result.andThen_ok,hsz,ne_eq,not_true_eq_false,if_false];rw [hsz] at hst;simp [hst]
  refine ⟨_,_,bs,hrun,.inr ⟨rfl,?_⟩⟩;have hfr:Fr (λc=>some b=some c) w (w.setRow b (vs.toList.take off++(a.eval y).cells.toList++vs.toList.drop (off+(a.eval y).cells.size)).toArray):=
   ⟨rfl,rfl,rfl,by simp,λc _ hno=>setRow_other w b c _ (λe=>hno (by rw [e])),λ_=>yn _⟩
  have hset:bs.set i (some b)=bs:=by
   refine ui λj=>?_
   by_cases hij:i=j
   ·subst hij;rw [yt (yb.1 hb).1,hb]
   ·rw [yv hij]
  have hupd:=R.upd (y:=.box bt (cs.take off++v.cellsV++cs.drop (off+n))) (c':=some b) hR hi hb (by simp [Compat]) hfr (.inl rfl) (by
   simp only [Blk.rep];refine ⟨b,_,by rw [yt (yb.1 hb).1],setRow_heap w b vs _ bt _ hh,?_⟩;have hWA:∀ c,some b=some c→Own C.A0 bs c:=λc hc=>.inr (by rw [← hc];exact yu hb)
   have up:∀ (zs:List V) (us:List Value),V.reps (Own C.A0 bs) w bs H zs us→V.reps (Own C.A0 (bs.set i (some b))) (w.setRow b (vs.toList.take off++(a.eval y).cells.toList++vs.toList.drop (off+(a.eval y).cells.size)).toArray) (bs.set i (some b)) (H.set i (.box bt (cs.take off++v.cellsV++cs.drop (off+n)))) zs us:=
    λzs us h=>V.reps_upd (x:=.box bt cs) (c:=some b) hi hb (by simp [Compat]) hR.own.apart hfr hWA (λc hc=>hc) (λc _ hc=>by rw [hset] at hc;exact hc) zs us h
   have hall:=V.reps_append (V.reps_append (V.reps_take off hreps) hcr) (V.reps_drop (off+n) hreps);have e:off+(a.eval y).cells.size=off+n:=by omega
   rw [e];have:=up _ _ hall;rw [e] at this;simpa using this)
  rw [hset] at hupd;rw [hd];exact hupd
theorem OpV.fieldAddrLoc {P o e H t bt x f i off o1 n cs} (ho:o.op = .fieldAddr t x f) (hx:e x=some (.loc i off)) (hi:H[i]? = some (.box bt cs)) (hf:fldAt P t f=some (o1,n)) :
  OpV P o e H (.loc i (off+o1)):=
 .of_same λA0 bs w g _ hw=>by
  have h1:=hw x (by simp [ho,Op.operands]) _ hx;simp only [V.rep,hi] at h1;obtain ⟨b,hb,hp⟩:=h1;unfold fldAt at hf;split at hf
  ·rename_i fs hut;split at hf
   ·rename_i fl hfi;split at hf
    ·rename_i m hm;split at hf <;> rename_i hne
     ·simp only [yh,yx] at hf;obtain ⟨rfl,rfl⟩:=hf;cases hinf:P.info? fl.type with
      | none=>simp [hinf] at hne
      | some inf=>
       have hsz:inf.size≠0:=by simpa [hinf] using hne
       refine ⟨.pointer (some ⟨b,off+fl.offset,none⟩),?_,?_⟩
       ·simp [execOp,ho,hp,Instr.fieldAt,run_underlying hut,hfi,Instr.sureAddr,fieldPlace,sizeOf,typeInfo,hinf,hsz,Addr.add_lit]
       ·simp only [V.rep,hi];exact ⟨b,hb,rfl⟩
     ·cases hf
    ·cases hf
   ·cases hf
  ·cases hf
def allD:List V→Option (List D)
 | []=>some []
 | .d x::vs=>match allD vs with | some ds=>some (x::ds) | none=>none
 | _=>none
def packV (cs:List V):V:=match allD cs with | some ds=>.d (.agg ds) | none=>.agg cs
theorem allD_spec:∀ {cs:List V} {ds:List D},allD cs=some ds→cs=ds.map .d
 | [],ds,h=>by simp only [allD,yh] at h;subst h;rfl
 | v::vs,ds,h=>by
  cases v with
  | d x=>
   simp only [allD] at h;split at h
   ·rename_i ds' hd;simp only [yh] at h;subst h;rw [allD_spec hd];rfl
   ·cases h
  | _=>simp [allD] at h
theorem OpV.loadLoc1 {P o e H t bt x i off v cs} (ho:o.op = .load t x) (hx:e x=some (.loc i off)) (hi:H[i]? = some (.box bt cs)) (ht:zE P t=some none) (hv:cs[off]? = some v) :
  OpV P o e H v:=
 .of_same λA0 bs w g m hw=>by
  have h1:=hw x (by simp [ho,Op.operands]) _ hx;simp only [V.rep,hi] at h1;obtain ⟨b,hb,hp⟩:=h1;have hblk:=m.blk i _ hi;simp only [Blk.rep] at hblk;obtain ⟨b',vs,hb',hh,hreps⟩:=hblk;obtain rfl:b=b':=by rw [hb] at hb';simpa using hb'
  obtain ⟨u,hu,hru⟩:=V.reps_get hreps off v hv;refine ⟨u,?_,hru⟩;unfold zE at ht;cases hut:P.underlying t with
  | none=>simp [hut] at ht
  | some ty=>
   simp only [hut] at ht;by_cases hrow:ty.isRow=true
   ·rw [if_pos hrow] at ht;cases hi2:P.info? t with
    | none=>simp [hi2] at ht
    | some inf=>simp [hi2] at ht
   ·have hagg:(isAgg t).run P w = .ok false w:=by
     unfold isAgg;rw [Sem.run_bind,run_underlying hut w];cases ty <;> simp_all
    have hcell:w.cell? ⟨b,off,none⟩=some u:=by rw [zab hh];simpa using hu
    simp [execOp,ho,hp,Instr.loadAt,Instr.sureAddr,loadVar,hagg,hcell]
theorem OpV.loadLoc {P o e H t bt x i off n v cs} (ho:o.op = .load t x) (hx:e x=some (.loc i off)) (hi:H[i]? = some (.box bt cs)) (ht:zE P t=some (some n)) (hn:off+n≤cs.length)
  (hv:packV ((cs.drop off).take n)=v):OpV P o e H v:=
 .of_same λA0 bs w g m hw=>by
  have h1:=hw x (by simp [ho,Op.operands]) _ hx;simp only [V.rep,hi] at h1;obtain ⟨b,hb,hp⟩:=h1;have hblk:=m.blk i _ hi;simp only [Blk.rep] at hblk;obtain ⟨b',vs,hb',hh,hreps⟩:=hblk;obtain rfl:b=b':=by rw [hb] at hb';simpa using hb'
  have hlen:=V.reps_len hreps;simp only [yC] at hlen;have hsub:=V.reps_take n (V.reps_drop off hreps);have hsl:((vs.toList.drop off).take n).length=n:=by simp;omega
  refine ⟨.agg ((vs.toList.drop off).take n).toArray,?_,?_⟩
  ·unfold zE at ht;cases hut:P.underlying t with
   | none=>simp [hut] at ht
   | some ty=>
    simp only [hut] at ht;by_cases hrow:ty.isRow=true
    ·rw [if_pos hrow] at ht;cases hi2:P.info? t with
     | none=>simp [hi2] at ht
     | some inf=>
      simp only [hi2,yT,yh] at ht;have:=run_loadAt_mid (P:=P) w b off t ((vs.toList.drop off).take n) ty (λj u hu=>by
       rw [zab hh];rw [uH] at hu;split at hu
       ·rw [List.getElem?_drop] at hu;simpa using hu
       ·cases hu) hut hrow (by simp [hi2,ht];omega)
      simp only [execOp,ho,hp,Sem.run_bind,this,Result.andThen_ok,Sem.run_pure]
    ·rw [if_neg hrow] at ht;simp at ht
  ·subst hv;unfold packV;split
   ·rename_i ds hd;rw [allD_spec hd] at hsub;simp only [V.rep,D.rep];exact ⟨_,rfl,V.reps_d.1 hsub⟩
   ·simp only [V.rep];exact ⟨_,rfl,hsub⟩
end
structure Range where
 lo:Int
 hi:Int
 deriving DecidableEq,Inhabited
def Range.enc (x:Range):D:=.agg [.int x.lo,.int x.hi]
structure Table where
 name:List UInt8
 kind:Int
 columns:List Int
 range:Range
 first:Int
 deriving DecidableEq,Inhabited
def Table.enc (x:Table):D:=.agg [.str x.name,.int x.kind,.sl 1 (x.columns.map D.int),.int x.range.lo,.int x.range.hi,.int x.first]
structure Term where
 cell:Int
 factor:Int
 deriving DecidableEq,Inhabited
def Term.enc (x:Term):D:=.agg [.int x.cell,.int x.factor]
structure Row where
 terms:List Term
 bound:Int
 deriving DecidableEq,Inhabited
def Row.enc (x:Row):D:=.agg [.sl 2 (x.terms.map Term.enc),.int x.bound]
structure Constraint where
 kind:Int
 family:Int
 row:Row
 first:Int
 size:Int
 deriving DecidableEq,Inhabited
def Constraint.enc (x:Constraint):D:=.agg [.int x.kind,.int x.family,.sl 2 (x.row.terms.map Term.enc),.int x.row.bound,.int x.first,.int x.size]
structure Operation where
 name:List UInt8
 ordered:Bool
 sorts:List Int
 deriving DecidableEq,Inhabited
def Operation.enc (x:Operation):D:=.agg [.str x.name,.bool x.ordered,.sl 1 (x.sorts.map D.int)]
structure Change where
 cell:Int
 add:Int
 deriving DecidableEq,Inhabited
def Change.enc (x:Change):D:=.agg [.int x.cell,.int x.add]
structure Update where
 kind:Int
 cell:Int
 value:Int
 deriving DecidableEq,Inhabited
def Update.enc (x:Update):D:=.agg [.int x.kind,.int x.cell,.int x.value]
structure Effect where
 delta:List Change
 hold:List Row
 updates:List Update
 deriving DecidableEq,Inhabited
def Effect.enc (x:Effect):D:=.agg [.sl 2 (x.delta.map Change.enc),.sl 2 (x.hold.map Row.enc),.sl 3 (x.updates.map Update.enc)]
structure Action where
 operation:Int
 arguments:List Int
 effect:Effect
 deriving DecidableEq,Inhabited
def Action.enc (x:Action):D:=.agg [.int x.operation,.sl 1 (x.arguments.map D.int),.sl 2 (x.effect.delta.map Change.enc),.sl 2 (x.effect.hold.map Row.enc),.sl 3 (x.effect.updates.map Update.enc)]
structure Hide where
 table:Int
 column:Int
 to:Int
 deriving DecidableEq,Inhabited
def Hide.enc (x:Hide):D:=.agg [.int x.table,.int x.column,.int x.to]
structure Model where
 sorts:List Int
 tables:List Table
 families:List (List UInt8)
 constraints:List Constraint
 operations:List Operation
 actions:List Action
 hides:List Hide
 deriving DecidableEq,Inhabited
def Model.enc (x:Model):D:=.agg [.sl 1 (x.sorts.map D.int),.sl 6 (x.tables.map Table.enc),.sl 1 (x.families.map D.str),.sl 6 (x.constraints.map Constraint.enc),.sl 3 (x.operations.map Operation.enc),.sl 5 (x.actions.map Action.enc),.sl 3 (x.hides.map Hide.enc)]
structure Target where
 hold:Bool
 index:Int
 deriving DecidableEq,Inhabited
def Target.enc (x:Target):D:=.agg [.bool x.hold,.int x.index]
structure Question where
 e:Int
 f:Int
 target:Target
 deriving DecidableEq,Inhabited
def Question.enc (x:Question):D:=.agg [.int x.e,.int x.f,.bool x.target.hold,.int x.target.index]
structure Scenario where
 question:Question
 state:List Int
 deriving DecidableEq,Inhabited
def Scenario.enc (x:Scenario):D:=.agg [.int x.question.e,.int x.question.f,.bool x.question.target.hold,.int x.question.target.index,.sl 1 (x.state.map D.int)]
structure Graph where
 first:Int
 size:Int
 least:List Int
 deriving DecidableEq,Inhabited
def Graph.enc (x:Graph):D:=.agg [.int x.first,.int x.size,.sl 1 (x.least.map D.int)]
structure Refusal where
 kind:Int
 index:Int
 deriving DecidableEq,Inhabited
structure Reader where
 lines:List (List UInt8)
 ok:Bool
 deriving DecidableEq,Inhabited
def Reader.enc (x:Reader):D:=.agg [.sl 1 (x.lines.map D.str),.bool x.ok]
structure Judge where
 model:Model
 strict:List Range
 deriving DecidableEq,Inhabited
def Judge.enc (x:Judge):D:=.agg [.sl 1 (x.model.sorts.map D.int),.sl 6 (x.model.tables.map Table.enc),.sl 1 (x.model.families.map D.str),.sl 6 (x.model.constraints.map Constraint.enc),.sl 3 (x.model.operations.map Operation.enc),.sl 5 (x.model.actions.map Action.enc),.sl 3 (x.model.hides.map Hide.enc),.sl 2 (x.strict.map Range.enc)]
structure Place where
 table:Int
 tuple:List Int
 deriving DecidableEq,Inhabited
def Place.enc (x:Place):D:=.agg [.int x.table,.sl 1 (x.tuple.map D.int)]
structure Layout where
 m:Model
 strict:List Place
 merged:List Place
 deriving DecidableEq,Inhabited
def Layout.enc (x:Layout):D:=.agg [.sl 1 (x.m.sorts.map D.int),.sl 6 (x.m.tables.map Table.enc),.sl 1 (x.m.families.map D.str),.sl 6 (x.m.constraints.map Constraint.enc),.sl 3 (x.m.operations.map Operation.enc),.sl 5 (x.m.actions.map Action.enc),.sl 3 (x.m.hides.map Hide.enc),.sl 2 (x.strict.map Place.enc),.sl 2 (x.merged.map Place.enc)]
structure DGraph where
 size:Int
 edges:List Bool
 deriving DecidableEq,Inhabited
def DGraph.enc (x:DGraph):D:=.agg [.int x.size,.sl 1 (x.edges.map D.bool)]
structure Token where
 kind:Int
 from_:Int
 at_:Int
 end_:Int
 deriving DecidableEq,Inhabited
def Token.enc (x:Token):D:=.agg [.int x.kind,.int x.from_,.int x.at_,.int x.end_]
structure ErrorString where
 s:List UInt8
 deriving DecidableEq,Inhabited
structure SSpan where
 start:Int
 end_:Int
 deriving DecidableEq,Inhabited
structure Swap where
 sort:Int
 a:Int
 b:Int
 deriving DecidableEq,Inhabited
structure Swapping where
 layout:Layout
 s:Swap
 deriving DecidableEq,Inhabited
def grd {R:Type} (c:Bool) (m:Option R):Option R:=if c=true then m else none
def jn {σ R:Type} (k:σ→Option R) (m:(σ→Option R)→Option R):Option R:=m k
def loopF {σ R:Type} (body:(σ→Option R)→σ→Option R):Nat→σ→Option R
 | 0,_=>none
 | n+1,s=>body (loopF body n) s
def idx {α:Type} (l:List α) (i:Int):Option α:=if 0≤i then l[i.toNat]? else none
def sto {α:Type} (l:List α) (i:Int) (x:α):Option (List α):=if 0≤i∧i.toNat<l.length then some (l.set i.toNat x) else none
def sidx (l:List UInt8) (i:Int):Option Int:=if 0≤i then l[i.toNat]?.map λb=>(b.toNat:Int) else none
def cut {α:Type} (l:List α) (lo hi:Int):Option (List α):=if 0≤lo∧lo≤hi∧hi≤(l.length:Int) then some ((l.drop lo.toNat).take (hi.toNat - lo.toNat)) else none
def app {α:Type} (bytes:Nat) (xs ys:List α):Option (List α):=if (xs.length+ys.length)*bytes≤140737488355328 then some (xs++ys) else none
def mkl {α:Type} (bytes:Nat) (n:Int) (x:α):Option (List α):=if 0≤n∧n*bytes≤140737488355328 then some (List.replicate n.toNat x) else none
def w64 (x:Int):Int:=IntKind.i64.wrap x
def add64 (a b:Int):Int:=w64 (a+b)
def sub64 (a b:Int):Int:=w64 (a - b)
def mul64 (a b:Int):Int:=w64 (a*b)
def neg64 (a:Int):Int:=w64 (-a)
def quo64 (a b:Int):Option Int:=if b=0 then none else some (w64 (a.tdiv b))
def rem64 (a b:Int):Option Int:=if b=0 then none else some (a.tmod b)
theorem grdS {R:Type} {c:Bool} {m:Option R} {r:R} (h:grd c m=some r):c=true∧m=some r:=by
 unfold grd at h;split at h <;> simp_all
theorem bindS {α R:Type} {o:Option α} {k:α→Option R} {r:R} (h:o.bind k=some r):∃ v,o=some v∧k v=some r:=by
 cases o with
 | none=>simp at h
 | some v=>exact ⟨v,rfl,by simpa using h⟩
theorem iteT {R:Type} {b:Bool} {x y:Option R} {r:R} (hb:b=true) (h:(if b=true then x else y)=some r):x=some r:=by rwa [if_pos hb] at h
theorem iteF {R:Type} {b:Bool} {x y:Option R} {r:R} (hb:b=false) (h:(if b=true then x else y)=some r):y=some r:=by rwa [if_neg (by simp [hb])] at h
theorem idxS {α:Type} {l:List α} {i:Int} {v:α} (h:idx l i=some v):∃ n:Nat,i=(n:Int)∧∃ hn:n<l.length,l[n]=v:=by
 unfold idx at h;split at h
 ·rename_i h0;obtain ⟨n,rfl⟩:=yQ h0;simp only [yq] at h;obtain ⟨hn,e⟩:=yb.1 h;exact ⟨n,rfl,hn,e⟩
 ·cases h
theorem someD {α:Type} [Inhabited α] {o:Option α} (h:o.isSome=true):o=some (o.getD default):=by cases o <;> simp_all
theorem zaj {x:Int} (h1 : -9223372036854775808≤x) (h2:x≤9223372036854775807):w64 x=x:=IntWalk.i64_in x ⟨h1,h2⟩
section
variable [Globs] [Drw]
section
variable {P:Program} {o:Oper} {e:Operand→Option V} {H:List Blk}
theorem OpV.add6 {t u x y a b} (ho:o.op = .binOp .add t x y u) (hx:e x=some (.d (.int a))) (hy:e y=some (.d (.int b))):OpV P o e H (.d (.int (add64 a b))):=.add ho hx hy
theorem OpV.sub6 {t u x y a b} (ho:o.op = .binOp .sub t x y u) (hx:e x=some (.d (.int a))) (hy:e y=some (.d (.int b))):OpV P o e H (.d (.int (sub64 a b))):=.sub ho hx hy
theorem OpV.mul6 {t u x y a b} (ho:o.op = .binOp .mul t x y u) (hx:e x=some (.d (.int a))) (hy:e y=some (.d (.int b))):OpV P o e H (.d (.int (mul64 a b))):=.mul ho hx hy
theorem OpV.neg6 {t x a} (ho:o.op = .unOp .neg t x) (hx:e x=some (.d (.int a))):OpV P o e H (.d (.int (neg64 a))):=.neg ho hx
theorem OpV.quo6 {t u x y a b c} (ho:o.op = .binOp .quo t x y u) (hx:e x=some (.d (.int a))) (hy:e y=some (.d (.int b))) (hc:quo64 a b=some c):OpV P o e H (.d (.int c)):=by
 unfold quo64 at hc;split at hc
 ·cases hc
 ·rename_i h;cases hc;exact .bin_int ho hx hy λw=>by simp [binOp,Op.intDiv,h,w64]
theorem OpV.rem6 {t u x y a b c} (ho:o.op = .binOp .rem t x y u) (hx:e x=some (.d (.int a))) (hy:e y=some (.d (.int b))) (hc:rem64 a b=some c):OpV P o e H (.d (.int c)):=by
 unfold rem64 at hc;split at hc
 ·cases hc
 ·rename_i h;cases hc;exact .bin_int ho hx hy λw=>by simp [binOp,Op.intDiv,h]
theorem eqGuard_bool {w} (op:BinOp) (t x y a b):(eqGuard op t x y (.bool a) (.bool b)).run P w = .ok () w:=by
 unfold eqGuard;cases op <;> simp
theorem OpV.beq {t u x y a b} (ho:o.op = .binOp .eql t x y u) (ht:P.underlying t=some .bool) (hx:e x=some (.d (.bool a))) (hy:e y=some (.d (.bool b))):OpV P o e H (.d (.bool (a==b))):=
 .of_same λ_ _ w f _ hf=>by
  have h1:=zr.1 (hf x (by simp [ho,Op.operands]) _ hx);have h2:=zr.1 (hf y (by simp [ho,Op.operands]) _ hy);exact ⟨.bool (a==b),by simp only [execOp,ho,h1,h2,eqGuard_bool,binOp,run_equal_bool w t a b ht,Sem.run_bind,Sem.run_pure,Result.andThen_ok],zr.2 rfl⟩
theorem OpV.bne {t u x y a b} (ho:o.op = .binOp .neq t x y u) (ht:P.underlying t=some .bool) (hx:e x=some (.d (.bool a))) (hy:e y=some (.d (.bool b))):OpV P o e H (.d (.bool (a != b))):=
 .of_same λ_ _ w f _ hf=>by
  have h1:=zr.1 (hf x (by simp [ho,Op.operands]) _ hx);have h2:=zr.1 (hf y (by simp [ho,Op.operands]) _ hy);exact ⟨.bool (a != b),by simp only [execOp,ho,h1,h2,eqGuard_bool,binOp,run_equal_bool w t a b ht,Sem.run_bind,Sem.run_pure,Result.andThen_ok];rfl,zr.2 rfl⟩
theorem OpV.conv {s d} {su:TypeDesc} {x k j a} (ho:o.op = .convert s d x) (hs:P.underlying s=some su) (hd:P.underlying d=some (.int k)) (hx:e x=some (.d (.val (.int j a)))):OpV P o e H (.d (.val (.int k (k.wrap a)))):=
 .of_same λ_ _ w f _ hf=>by
  have h1:=zr.1 (hf x (by simp [ho,Op.operands]) _ hx);refine ⟨.int k (k.wrap a),?_,zr.2 rfl⟩;simp [execOp,ho,h1,convert,run_underlying hs,run_underlying hd,Conv.intToInt]
theorem OpV.idx {α:Type} {t el x i} {k:Nat} {l:List α} {enc:α→D} {a:Int} {v:α} (ho:o.op = .indexAddr t x i) (hx:e x=some (.d (.sl k (l.map enc)))) (hi:e i=some (.d (.int a)))
  (ht:P.underlying t=some (.slice el)) (hs:(P.info? el).map (·.size)=some k) (hv:Go.Proofs.YtbnhmfnagdgcmaaGreatDoor.idx l a=some v):OpV P o e H (.d (.ref (enc v))):=by
 obtain ⟨n,ha,hn,rfl⟩:=idxS hv;exact .indexAddr ho hx hi ht hs ha hn
theorem OpV.sidx {t x i} {l:List UInt8} {a v} (ho:o.op = .index t x i) (hx:e x=some (.d (.str l))) (hi:e i=some (.d (.int a))) (ht:P.underlying t=some .string) (hv:Go.Proofs.YtbnhmfnagdgcmaaGreatDoor.sidx l a=some v):OpV P o e H (.d (.val (.int .u8 v))):=
 .of_same λ_ _ w f _ hf=>by
  have h1:=zr.1 (hf x (by simp [ho,Op.operands]) _ hx);have h2:=zr.1 (hf i (by simp [ho,Op.operands]) _ hi);refine ⟨.int .u8 v,?_,zr.2 rfl⟩;unfold Go.Proofs.YtbnhmfnagdgcmaaGreatDoor.sidx at hv;split at hv
  ·rename_i h0;cases hb:l[a.toNat]? with
   | none=>simp [hb] at hv
   | some b=>
    simp [hb] at hv;subst hv;obtain ⟨hn,hbe⟩:=yb.1 hb;have hs:(⟨l.toArray⟩:ByteArray)[a.toNat]? = some b:=by
     rw [getElem?_eq_some_iff];exact ⟨hn,hbe⟩
    simp [execOp,ho,h1,h2,Instr.index,asIntOf,run_underlying ht,h0,hs]
  ·cases hv
theorem OpV.extract {x i ds d} (ho:o.op = .extract x i) (hx:e x=some (.d (.tup ds))) (hd:ds[i]? = some d):OpV P o e H (.d d):=
 .of_same λA0 bs w f _ hf=>by
  have h1:=hf x (by simp [ho,Op.operands]) _ hx;simp only [V.rep,D.rep] at h1;obtain ⟨vs,h1,h2⟩:=h1;obtain ⟨v,hv,hr⟩:=D.reps_get h2 i d hd;refine ⟨v,?_,by simpa only [V.rep] using hr⟩;have:vs[i]? = some v:=by simpa using hv
  simp [execOp,ho,h1,Instr.extract,this]
theorem OpV.nilCheck_ref {x d} (ho:o.op = .nilCheck x) (hx:e x=some (.d (.ref d))):OpV P o e H (.d (.ref d)):=
 .of_same λA0 bs w f _ hf=>by
  have h1:=hf x (by simp [ho,Op.operands]) _ hx;refine ⟨f x,?_,h1⟩;simp only [V.rep,D.rep] at h1;obtain ⟨b,off,u,hp,_⟩:=h1;simp [execOp,ho,hp]
theorem OpV.nilCheck_loc {x i off t cs} (ho:o.op = .nilCheck x) (hx:e x=some (.loc i off)) (hi:H[i]? = some (.box t cs)):OpV P o e H (.loc i off):=
 .of_same λA0 bs w f _ hf=>by
  have h1:=hf x (by simp [ho,Op.operands]) _ hx;refine ⟨f x,?_,h1⟩;simp only [V.rep,hi] at h1;obtain ⟨b,_,hp⟩:=h1;simp [execOp,ho,hp]
end
end
section
variable [Globs] [Drw]
inductive D.Le:D→D→Prop
 | refl (d:D):D.Le d d
 | nil (k:Nat):D.Le (.val (.slice none 0 0)) (.sl k [])
theorem D.Le.rep {A w d d' v} (h:D.Le d d') (hv:d.rep A w v):d'.rep A w v:=by
 cases h with
 | refl=>exact hv
 | nil k=>
  simp only [D.rep] at hv ⊢;exact ⟨none,0,hv,yn _,.inl trivial⟩
inductive D.Les:List D→List D→Prop
 | nil:D.Les [] []
 | cons {d d':D} {ds ds':List D}:D.Le d d'→D.Les ds ds'→D.Les (d::ds) (d'::ds')
theorem D.Les.reps {A w}:∀ {ds ds':List D} {vs:List Value},D.Les ds ds'→D.reps A w ds vs→D.reps A w ds' vs
 | _,_,_,.nil,h=>h
 | _,_,_,.cons h hs,hv=>by
  simp only [D.reps] at hv ⊢;obtain ⟨v,vs',e,h1,h2⟩:=hv;exact ⟨v,vs',e,h.rep h1,hs.reps h2⟩
structure ZeroD (P:Program) (t:TypeId) (d:D):Prop where
 out:∃ z,zb3 P t=some z∧∀ A w,d.rep A w z
def zcells (P:Program) (t:TypeId):Option (List D):=match zb3 P t with | some (.agg cs)=>some (cs.toList.map .val) | _=>none
theorem reps_vals' {A w}:∀ (l:List Value),D.reps A w (l.map .val) l
 | []=>by simp [D.reps]
 | v::l=>by simp only [yM,D.reps];exact ⟨v,l,rfl,by simp only [D.rep],reps_vals' l⟩
theorem ZeroD.agg {P t ds ds'} (h:zcells P t=some ds) (hl:D.Les ds ds'):ZeroD P t (.agg ds'):=by
 unfold zcells at h;split at h
 ·rename_i cs hz;cases h;exact ⟨_,hz,λA w=>by simp only [D.rep];exact ⟨cs,rfl,hl.reps (reps_vals' _)⟩⟩
 ·cases h
theorem ZeroD.val {P t v} (h:zb3 P t=some v):ZeroD P t (.val v):=⟨_,h,λ_ _=>by simp only [D.rep]⟩
def fillD:List D→List (Nat×Nat×D)→Option (List D)
 | cs,[]=>some cs
 | cs,(off,n,d)::r=>match d with
  | .agg ds=>if ds.length=n∧off+n≤cs.length then fillD (cs.take off++ds++cs.drop (off+n)) r else none
  | d=>if n=1∧off+1≤cs.length∧d.shape=none then fillD (cs.take off++[d]++cs.drop (off+1)) r else none
def zbb (P:Program) (t:TypeId):Option (List (Nat×Nat)):=
 match P.underlying t with
 | some (.struct fs)=>if fs.all (λf=>(P.info? f.type).isSome) then some (fs.toList.map λf=>(f.offset,P.cellsOf f.type)) else none
 | _=>none
def partsD (e:Operand→Option V) (pl:List (Nat×Nat)):List (Nat×Operand)→Option (List (Nat×Nat×D))
 | []=>some []
 | (i,x)::r=>match pl[i]?,e x,partsD e pl r with
  | some (off,n),some (.d d),some ps=>some ((off,n,d)::ps)
  | _,_,_=>none
theorem D.reps_append {A w}:∀ {xs ys:List D} {vs us:List Value},D.reps A w xs vs→D.reps A w ys us→D.reps A w (xs++ys) (vs++us)
 | [],ys,vs,us,h,h'=>by simp only [D.reps] at h;subst h;simpa using h'
 | x::xs,ys,vs,us,h,h'=>by
  simp only [D.reps] at h;obtain ⟨v,vs',rfl,h1,h2⟩:=h;simp only [y7,D.reps];exact ⟨v,vs'++us,rfl,h1,D.reps_append h2 h'⟩
theorem setRow_eq (vs cs:Array Value) (off:Nat) (h:off+vs.size≤cs.size):(vs.zipIdx.foldl (λcs (p:Value×Nat)=>cs.setIfInBounds (off+p.2) p.1) cs).toList=cs.toList.take off++vs.toList++cs.toList.drop (off+vs.size):=by
 have key:∀ (l:List Value) (k:Nat) (cs:Array Value),off+k+l.length≤cs.size →
   ((l.zipIdx k).foldl (λcs (p:Value×Nat)=>cs.setIfInBounds (off+p.2) p.1) cs).toList=cs.toList.take (off+k)++l++cs.toList.drop (off+k+l.length):=by
  intro l
  induction l with
  | nil=>intro k cs _;simp
  | cons x l ih=>
   intro k cs hk;simp only [yJ] at hk;simp only [List.zipIdx_cons,List.foldl_cons];rw [ih (k+1) _ (by simp;omega)];simp only [Array.toList_setIfInBounds,yJ];have h1:off+k<cs.toList.length:=by simp;omega
   rw [show off+(k+1)=off+k+1 by omega,List.take_add_one,yt h1,List.take_set,List.drop_set];simp only [Option.toList_some,yB,y7,yV,show off+k<off+k+1+l.length by omega,if_true];rw [List.set_eq_of_length_le (by simp;omega),show off+k+(l.length+1)=off+k+1+l.length by omega]
 have:=key vs.toList 0 cs (by simpa using h);rw [← Array.foldl_toList,Array.toList_zipIdx];simpa using this
theorem fill_rep {P:Program} {A:Nat→Prop} {w:World} {bs:List (Option Nat)} {H:List Blk} {e:Operand→Option V} {f:Operand→Value} {pl:List (Nat×Nat)} {place:Nat→Option (Nat×Nat)} (hpl:∀ i,place i=pl[i]?):∀ (parts:List (Nat×Operand)) (ps:List (Nat×Nat×D)) (cs ds:List D) (vs:Array Value),
  partsD e pl parts=some ps→(∀ x∈parts.map (·.2),∀ y,e x=some y→V.rep A w bs H y (f x))→fillD cs ps=some ds→D.reps A w cs vs.toList →
  ∃ us,Instr.fill place vs (parts.map λ(i,x)=>(i,f x))=some us∧D.reps A w ds us.toList
 | [],ps,cs,ds,vs,hp,_,hf,hr=>by
  simp only [partsD,yh] at hp;subst hp;simp only [fillD,yh] at hf;subst hf;exact ⟨vs,by simp [Instr.fill],hr⟩
 | (i,x)::parts,ps,cs,ds,vs,hp,hx,hf,hr=>by
  simp only [partsD] at hp;split at hp
  ·rename_i off n d ps' h1 h2 h3;simp only [yh] at hp;subst hp;have hv:=hx x (by simp) _ h2;simp only [V.rep] at hv;have hlen:=D.reps_len hr;have step:∀ (dd:List D),D.reps A w dd (f x).cells.toList→dd.length=n→off+n≤cs.length→fillD (cs.take off++dd++cs.drop (off+n)) ps'=some ds →
     ∃ us,Instr.fill place vs (((i,x)::parts).map λ(i,x)=>(i,f x))=some us∧D.reps A w ds us.toList:=by
    intro dd hdd hn hfit hfl;have hsz:(f x).cells.size=n:=by have:=D.reps_len hdd;simp at this;omega
    have hfit':off+(f x).cells.size≤vs.size:=by simp at hlen;omega
    have e1:=setRow_eq (f x).cells vs off hfit';obtain ⟨us,g1,g2⟩:=fill_rep (P:=P) hpl parts ps' _ ds ((f x).cells.zipIdx.foldl (λcs (p:Value×Nat)=>cs.setIfInBounds (off+p.2) p.1) vs) h3 (λy hy=>hx y (by simp at hy ⊢;right;exact hy)) hfl (by
     rw [e1,hsz];exact D.reps_append (D.reps_append (D.reps_take off hr) hdd) (D.reps_drop _ hr))
    refine ⟨us,?_,g2⟩;simp only [yM,Instr.fill,hpl,h1];rw [if_neg (by simp;omega)];exact g1
   cases d with
   | agg dd=>
    simp only [fillD] at hf;split at hf
    ·rename_i hc;simp only [D.rep] at hv;obtain ⟨us,e1,h4⟩:=hv;exact step dd (by rw [e1];exact h4) hc.1 hc.2 hf
    ·cases hf
   | val _ | tup _ | sl _ _ | ref _ | fn _ _ _ | mp _ _ | err=>
    simp only [fillD] at hf;split at hf
    ·rename_i hc;obtain ⟨rfl,hc2,hc3⟩:=hc;exact step [_] (by rw [D.cells_of_one hv hc3];simp only [D.reps];exact ⟨_,[],rfl,hv,rfl⟩) rfl hc2 hf
    ·cases hf
  ·cases hp
section
variable {P:Program} {o:Oper} {e:Operand→Option V} {H:List Blk}
theorem mapM_places {w}:∀ (fs:List Field),(∀ f∈fs,(P.info? f.type).isSome=true)→(fs.mapM λf=>do pure (f.offset,← sizeOf f.type):Sem (List (Nat×Nat))).run P w = .ok (fs.map λf=>(f.offset,P.cellsOf f.type)) w
 | [],_=>by simp
 | f::fs,h=>by
  have h1:=h f (by simp);obtain ⟨i,hi⟩:=Option.isSome_iff_exists.1 h1;simp only [List.mapM_cons,Sem.run_bind,run_sizeOf w hi,Result.andThen_ok,Sem.run_pure,mapM_places fs (λg hg=>h g (by simp [hg])),yM]
theorem OpV.build {t:TypeId} {parts:Array (Nat×Operand)} {pl:List (Nat×Nat)} {ps:List (Nat×Nat×D)} {cs ds:List D} (ho:o.op = .build t parts) (hpl:zbb P t=some pl) (hz:ZeroD P t (.agg cs)) (hp:partsD e pl parts.toList=some ps) (hf:fillD cs ps=some ds):OpV P o e H (.d (.agg ds)):=
 .of_same λA0 bs w f _ hw=>by
  obtain ⟨z,hz,hzr⟩:=hz.out;have hzr:=hzr (Own A0 bs) w;simp only [D.rep] at hzr;obtain ⟨vs,rfl,hvs⟩:=hzr;unfold zbb at hpl;split at hpl
  ·rename_i fs hu;split at hpl
   ·rename_i hall;simp only [yh] at hpl;obtain ⟨us,g1,g2⟩:=fill_rep (P:=P) (A:=Own A0 bs) (w:=w) (bs:=bs) (H:=H) (e:=e) (f:=f) (pl:=pl) (place:=λi=>(fs.map λf=>(f.offset,P.cellsOf f.type))[i]?) (λi=>by rw [← hpl];simp) parts.toList ps cs ds vs hp (λx hx=>hw x (by
     simp only [ho,Op.operands];simpa using hx)) hf hvs
    refine ⟨.agg us,?_,by simp only [V.rep,D.rep];exact ⟨us,rfl,g2⟩⟩;unfold zb3 at hz;cases hi:P.info? t with
    | none=>simp [hi] at hz
    | some inf=>
     simp only [hi] at hz;have hm:(fs.mapM λf=>do pure (f.offset,← sizeOf f.type):Sem (Array (Nat×Nat))).run P w = .ok (fs.map λf=>(f.offset,P.cellsOf f.type)) w:=by
      rw [← Array.toArray_toList (xs:=fs),List.mapM_toArray];have:=mapM_places (P:=P) (w:=w) fs.toList (λf hf=>by
       have:=(Array.all_eq_true'.1 hall) f (by simpa using hf);simpa using this)
      simp only [map_eq_pure_bind,Sem.run_bind] at this ⊢;rw [this];simp only [Result.andThen_ok,Sem.run_pure];rw [← Array.toList_map,Array.toArray_toList]
     have hzv:(zeroValue t).run P w = .ok (.agg vs) w:=by
      simp [zeroValue,typeInfo,program,Sem.run_bind,Sem.run,hi,hz]
     have g1':Instr.fill (λi=>(fs.map λf=>(f.offset,P.cellsOf f.type))[i]?) vs ((parts.map λ(i,x)=>(i,f x)).toList)=some us:=by
      rw [← g1];simp
     simp only [execOp,ho,Instr.build,Sem.run_bind,hzv,Result.andThen_ok,run_underlying hu,hm,Value.cells,g1',Sem.run_pure]
   ·cases hpl
  ·cases hpl
end
end
section
variable [Globs] [Drw]
theorem R.adoptVec {C:Ctx} {A:Nat→Prop} {bs:List (Option Nat)} {s:St} {a:Act} {w:World} {b:Nat} {o:Obj} (t:TypeId) (k:Nat) (xs:List D) (h:R { C with A0:=λc=>A c∨c=b } bs s a w) (hb:w.heap[b]? = some o) (hA:¬ A b)
  (hlo:C.w0.heap.size≤b):R { C with A0:=A } (bs++[some b]) ⟨s.T,s.H++[.vec t k xs]⟩ a w:=by
 have hbl:=(ym.1 hb).1;have hnb:some b∉bs:=λhc=>h.own.not b hc (.inr rfl)
 have hsub:∀ c,c<w.heap.size→Own A (bs++[some b]) c→Own (λc=>A c∨c=b) bs c:=λc _ hc=>by
  rcases hc with hc | hc
  ·exact .inl (.inl hc)
  ·rcases yK.1 hc with hc | hc
   ·exact .inr hc
   ·simp only [yO,yh] at hc;exact .inl (.inr hc)
 have hlen:=h.len;refine ⟨⟨λi j c hi hj=>?_,λc hc=>?_,λc hc=>?_,λc hc=>h.own.foreign c (.inl hc),h.own.glob.fr (Fr.refl zd w) (λ_ x=>x.elim) hsub⟩,by simp [hlen],λi k hk=>?_,λu v hv=>⟨(h.tmp u v hv).1,V.rep_snoc hlen hsub v _ (h.tmp u v hv).2⟩,h.defers,h.size,h.fr,λc hc=>?_,λp hp=>⟨(h.gh p hp).1,V.rep_snoc hlen hsub p.1 _ (h.gh p hp).2⟩⟩
 ·rcases uA i bs.length with hib | hib
  ·rw [yg hib] at hi;rcases uA j bs.length with hjb | hjb
   ·rw [yg hjb] at hj;exact h.own.apart i j c hi hj
   ·rw [yD hjb] at hj;have:j - bs.length=0:=by have:=(yb.1 hj).1;simp at this;omega
    rw [this] at hj;simp at hj;subst hj;exact absurd (yu hi) hnb
  ·rw [yD hib] at hi;have e1:i - bs.length=0:=by have:=(yb.1 hi).1;simp at this;omega
   rw [e1] at hi;simp at hi;subst hi;rcases uA j bs.length with hjb | hjb
   ·rw [yg hjb] at hj;exact absurd (yu hj) hnb
   ·rw [yD hjb] at hj;have:=(yb.1 hj).1;simp at this;omega
 ·rcases yK.1 hc with hc | hc
  ·exact λhA'=>h.own.not c hc (.inl hA')
  ·simp only [yO,yh] at hc;subst hc;exact hA
 ·rcases yK.1 hc with hc | hc
  ·exact h.own.lt c hc
  ·simp only [yO,yh] at hc;subst hc;exact hbl
 ·rcases uA i s.H.length with hi | hi
  ·simp only at hk;rw [yg hi] at hk;exact Blk.rep_snoc hlen hsub i k (h.blk i k hk)
  ·simp only at hk;rw [yD hi] at hk;have e1:i - s.H.length=0:=by have:=(yb.1 hk).1;simp at this;omega
   rw [e1] at hk;simp at hk;subst hk;simp only [Blk.rep]
 ·rcases yK.1 hc with hc | hc
  ·exact h.new c hc
  ·simp only [yO,yh] at hc;subst hc;exact .inr hlo
theorem R.newVec {C:Ctx} {bs:List (Option Nat)} {T:List (Nat×V)} {H:List Blk} {a:Act} {w:World} (h:R C bs ⟨T,H⟩ a w) {cells:Array Value} {el:TypeId} {k n cap r:Nat} {xs:List D} (hr:r<C.n) (hn:n=xs.length) (hc:cells.size=cap*k) (hnc:n≤cap) (hcm:cap≤maxLen)
  (hf:D.flat (Own C.A0 bs) w k xs (cells.toList.take (n*k))) :
  R C (bs++[some w.heap.size]) ⟨(r,.vec H.length n)::T,H++[.vec el k xs]⟩ (a.put (some r) (.slice (some ⟨w.heap.size,0,none⟩) n cap)) (w.alloc (.cells cells el)):=by
 have hfr:Fr zd w (w.alloc (.cells cells el)):=⟨rfl,rfl,rfl,by simp,λb hb _=>Below.heap_alloc w _ b hb,λ_=>yn _⟩
 have hA0:¬ C.A0 w.heap.size:=λh'=>absurd (h.own.foreign _ h') (by omega)
 have h1:R { C with A0:=λc=>C.A0 c∨c=w.heap.size } bs ⟨T,H⟩ a (w.alloc (.cells cells el)):=
  h.own_more (A:=λc=>C.A0 c∨c=w.heap.size) hfr (λb hb hb'=>hb'.elim id (λe=>by omega)) (λb hb=>by
   rcases hb with hb | rfl
   ·exact yL (h.own.foreign b hb) hfr.size
   ·simp)
 have h2:=R.adoptVec (C:=C) el k xs h1 (heap_alloc_new w _) hA0 h.fr.size;have hlen:=h.len;simp only at hlen;refine h2.put (Fr.refl _ _) (some r) (by simpa [dstOK] using hr) (v:=.vec H.length n) ?_;simp only [V.rep];rw [yD (yn _)];simp only [uI,y6];refine ⟨by omega,λ_=>⟨cells.toList.take (n*k),⟨?_,.inr ⟨w.heap.size,cap,cells,rfl,yp _,heap_alloc_new w _,hnc,hcm,hc,rfl⟩⟩,by rw [← hlen];simp [Value.ownBlock],?_⟩⟩
 ·simp only [yR,yC,hc];exact Nat.min_eq_left (yZ _ hnc)
 ·refine D.flat_fr hfr (λ_ x=>x.elim) (λb hb hb'=>?_) xs _ hf;rcases hb' with hb' | hb'
  ·exact .inl hb'
  ·rcases yK.1 hb' with hb' | hb'
   ·exact .inr hb'
   ·simp only [yO,yh] at hb';omega
def D.kOK (k:Nat) (d:D):Bool:=match d.shape with | none=>k==1 | some n=>n==k
theorem D.kOK_cells {A:Nat→Prop} {w:World} {k:Nat} {d:D} {v:Value} (h:d.rep A w v) (hk:d.kOK k=true):v.cells.size=k:=by
 unfold D.kOK at hk;split at hk
 ·rename_i hs;rw [D.cells_of_one h hs];simpa using (beq_iff_eq.1 hk).symm
 ·rename_i n hs;obtain ⟨vs,rfl,hv⟩:=D.cells_of_agg h hs;simp only [Value.cells,hv];exact beq_iff_eq.1 hk
theorem D.flat_of_reps {A:Nat→Prop} {w:World} {k:Nat}:∀ {ds:List D} {vs:List Value},D.reps A w ds vs→(∀ d∈ds,d.kOK k=true)→D.flat A w k ds (vs.flatMap λv=>v.cells.toList)
 | [],vs,h,_=>by simp only [D.reps] at h;subst h;simp [D.flat]
 | d::ds,vs,h,hk=>by
  simp only [D.reps] at h;obtain ⟨v,vs',rfl,h1,h2⟩:=h;simp only [D.flat];exact ⟨v,_,rfl,D.kOK_cells h1 (hk d (by simp)),h1,D.flat_of_reps h2 λx hx=>hk x (by simp [hx])⟩
theorem fill_row {k place} (hp:∀ i,place i=some (i*k,k)):∀ (us:List Value) (m:Nat) (vs:Array Value),(∀ u∈us,u.cells.size=k)→(m+us.length)*k≤vs.size →
  ∃ r,Instr.fill place vs ((us.zipIdx m).map λp=>(p.2,p.1))=some r∧r.toList=vs.toList.take (m*k)++us.flatMap (λv=>v.cells.toList)++vs.toList.drop ((m+us.length)*k)
 | [],m,vs,_,_=>⟨vs,by simp [Instr.fill],by simp⟩
 | u::us,m,vs,hu,hs=>by
  have h1:=hu u (by simp);simp only [yJ] at hs;have e0:m*k+k=(m+1)*k:=by rw [uj]
  have hle:(m+1)*k≤(m+(us.length+1))*k:=yZ _ (by omega);have hfit:m*k+u.cells.size≤vs.size:=by rw [h1];omega
  have e1:=setRow_eq u.cells vs (m*k) hfit;have hlen:=congrArg List.length e1;simp only [yC,yG,yR,ua] at hlen;obtain ⟨r,g1,g2⟩:=fill_row hp us (m+1) (u.cells.zipIdx.foldl (λcs (p:Value×Nat)=>cs.setIfInBounds (m*k+p.2) p.1) vs) (λx hx=>hu x (by simp [hx])) (by
   rw [show m+1+us.length=m+(us.length+1) by omega];omega)
  refine ⟨r,?_,?_⟩
  ·simp only [List.zipIdx_cons,yM,Instr.fill,hp];rw [if_neg (by simp;omega)];exact g1
  ·have el:(vs.toList.take (m*k)++u.cells.toList).length=(m+1)*k:=by
    simp only [yG,yR,yC,h1];omega
   have e2:(m+1)*k≤(m+1+us.length)*k:=yZ _ (by omega);rw [g2,e1,h1,e0,← el,List.take_left,el,List.drop_append,el,List.drop_eq_nil_of_le (by rw [el];exact e2),yV,List.drop_drop,show (m+1)*k+((m+1+us.length)*k - (m+1)*k)=(m+(us.length+1))*k by
    rw [Nat.add_sub_cancel' e2,show m+1+us.length=m+(us.length+1) by omega],ug]
   simp only [yB,yJ]
theorem zip_fst {α β:Type}:∀ (l:List (Nat×α)) (m:Nat),l.map (·.1)=(List.range' m l.length)→l=((l.map (·.2)).zipIdx m).map λp=>(p.2,p.1)
 | [],_,_=>rfl
 | (i,x)::l,m,h=>by
  simp only [yM,yJ,List.range'_succ,List.cons.injEq] at h;obtain ⟨rfl,h⟩:=h;simp only [yM,List.zipIdx_cons,List.cons.injEq,true_and];exact zip_fst (β:=β) l (i+1) h
theorem zhn {P:Program} {w:World} {t el:TypeId} {i:TypeInfo} {z:Value} {k:Nat} {us:List Value} (ht:P.underlying t=some (.slice el)) (hi:P.info? el=some i) (hz:i.zero=some z) (hk:i.size=k) (hzs:z.cells.size=k) (hu:∀ u∈us,u.cells.size=k) (hl:us.length*k≤2 ^ 24) :
  ∃ cells:Array Value,cells.toList=us.flatMap (λv=>v.cells.toList)∧(Instr.buildSlice t us.length ((us.zipIdx 0).map λp=>(p.2,p.1)).toArray).run P w = .ok (.slice (some ⟨w.heap.size,0,none⟩) us.length us.length) (w.alloc (.cells cells el)):=by
 have hck:P.cellsOf el=k:=by simp [Program.cellsOf,hi,hk]
 obtain ⟨r,g1,g2⟩:=fill_row (k:=k) (place:=λi=>some (i*k,k)) (λ_=>rfl) us 0 ((Array.range (us.length*k)).map λx=>(if us.length*k=0 then #[] else z.cells)[x % (if us.length*k=0 then #[] else z.cells).size]!) hu (by simp);refine ⟨r,by rw [g2];simp,?_⟩;have hno:¬ us.length*k > 2 ^ 24:=by omega
 by_cases h0:us.length*k=0
 ·simp only [if_pos h0] at g1;simp only [Instr.buildSlice,Sem.run_bind,run_underlying ht,Result.andThen_ok,run_sizeOf w hi,hck,if_neg hno,if_pos h0,Sem.run_pure,g1];rfl
 ·simp only [if_neg h0] at g1;have hzv:(zeroValue el).run P w = .ok z w:=by simp [zeroValue,typeInfo,program,Sem.run_bind,Sem.run,hi,hz]
  simp only [Instr.buildSlice,Sem.run_bind,run_underlying ht,Result.andThen_ok,run_sizeOf w hi,hck,if_neg hno,if_neg h0,Sem.run_pure,hzv,g1];rfl
end
section
variable [Globs] [Drw]
theorem D.flat_get {A w k}:∀ {xs:List D} {cs:List Value},D.flat A w k xs cs→∀ (j:Nat) (hj:j<xs.length),∃ u,D.rep A w xs[j] u∧u.cells.size=k∧∀ q,q<k→cs[j*k+q]? = u.cells[q]?
 | [],_,_,j,hj=>absurd hj (by simp)
 | x::xs,cs,h,0,_=>by
  simp only [D.flat] at h;obtain ⟨u,cs',rfl,hk,h1,_⟩:=h;refine ⟨u,h1,hk,λq hq=>?_⟩;rw [Nat.zero_mul,uq,yg (by simp [hk,hq])];simp
 | x::xs,cs,h,j+1,hj=>by
  simp only [D.flat] at h;obtain ⟨u,cs',rfl,hk,_,h2⟩:=h;obtain ⟨v,g1,g2,g3⟩:=D.flat_get h2 j (by simpa using hj);refine ⟨v,by simpa using g1,g2,λq hq=>?_⟩;have e:(j+1)*k+q=k+(j*k+q):=by rw [uj];omega
  rw [e,yD (by simp [hk])];simp only [yC,hk,Nat.add_sub_cancel_left];exact g3 q hq
section
variable {P:Program} {o:Oper} {e:Operand→Option V} {H:List Blk}
theorem D.Les.refls:∀ ds:List D,D.Les ds ds
 | []=>.nil
 | d::ds=>.cons (.refl d) (D.Les.refls ds)
theorem OpV.buildSlLe {α:Type} {t el} {len k bytes:Nat} {parts:Array (Nat×Operand)} {enc:α→D} {ys} (xs:List α) (ho:o.op = .buildSlice t len parts) (hp:parts.toList.map (·.1)=List.range' 0 len) (he:zbW P t el k bytes=true) (hx:evs e (parts.toList.map (·.2))=some ys) (hle:D.Les ys (xs.map enc))
  (hk:∀ x,(enc x).kOK k=true) (hl:Nat.ble (len*k) 16777216=true):OpV P o e H (.d (.sl k (xs.map enc))):=by
 obtain ⟨htu,hk0,inf,z,hinf,hz,hisz,hib,hzc⟩:=zco he;refine ⟨λA0 bs w f m hf _ _=>?_⟩;have hreps:D.reps (Own A0 bs) w (xs.map enc) ((parts.toList.map (·.2)).map f):=hle.reps (zgP hx (λx hx'=>hf x (by simp only [ho,Op.operands];simpa using hx')));have hcells:=D.flat_of_reps hreps (k:=k) (by intro d hd;obtain ⟨x,_,rfl⟩:=yU.1 hd;exact hk x);have hlen:=congrArg List.length hp;simp only [yS,List.length_range',yC] at hlen;have hkk:∀ u∈(parts.toList.map (·.2)).map f,u.cells.size=k:=by
  intro u hu;obtain ⟨i,hi,rfl⟩:=List.getElem_of_mem hu;have hl2:=D.reps_len hreps;have hi':i<(xs.map enc).length:=by rw [← hl2];exact hi
  obtain ⟨v,hv,hr⟩:=D.reps_get hreps i (xs.map enc)[i] (yA hi');rw [yA hi] at hv;cases hv;rw [List.getElem_map] at hr;exact D.kOK_cells hr (hk _)
 obtain ⟨cells,g1,g2⟩:=zhn (P:=P) (w:=w) (k:=k) htu hinf hz hisz hzc hkk (by
  have:=yi hl;simp only [yS,yC,hlen];omega)
 have hzip:=zip_fst (β:=D) parts.toList 0 (by rw [hp];simp [hlen]);have harr:(parts.map λ(i,x)=>(i,f x))=((((parts.toList.map (·.2)).map f).zipIdx 0).map λp=>(p.2,p.1)).toArray:=by
  apply Array.ext';rw [Array.toList_map]
  conv=>lhs;rw [hzip]
  simp only [List.zipIdx_map,uL];rfl
 have hrun:(execOp f o).run P w = .ok (.value (.slice (some ⟨w.heap.size,0,none⟩) len len)) (w.alloc (.cells cells el)):=by
  simp only [yS,yC,hlen] at g2;simp only [execOp,ho,Sem.run_bind,harr,g2,Result.andThen_ok,Sem.run_pure]
 rw [hrun];have hfr:Fr zd w (w.alloc (.cells cells el)):=⟨rfl,rfl,rfl,by simp,λb hb _=>Below.heap_alloc w _ b hb,λ_=>yn _⟩
 have hxl:(xs.map enc).length=len:=by have:=D.reps_len hreps;simp at this;simp;omega
 refine ⟨hfr,?_⟩;simp only [V.rep,D.rep];refine ⟨some ⟨w.heap.size,0,none⟩,len,by rw [hxl],by rw [hxl];exact yn _,.inr ⟨w.heap.size,0,rfl,λh=>?_,by simp,?_⟩⟩
 ·rcases h with h | h
  ·exact absurd (m.own.foreign _ h) (by omega)
  ·exact absurd (m.own.lt _ h) (by omega)
 ·refine D.row_of_flat (A:=Own A0 bs) (λ_ _ h=>h) _ _ 0 (D.flat_fr hfr (λ_ x=>x.elim) (λ_ _ h=>h) _ _ hcells) λj v hv=>?_
  rw [zab (heap_alloc_new w _),uq];rw [← g1] at hv;simpa using hv
theorem OpV.buildSl {α:Type} {t el} {len k bytes:Nat} {parts:Array (Nat×Operand)} {enc:α→D} (xs:List α) (ho:o.op = .buildSlice t len parts) (hp:parts.toList.map (·.1)=List.range' 0 len) (he:zbW P t el k bytes=true) (hx:evs e (parts.toList.map (·.2))=some (xs.map enc))
  (hk:∀ x,(enc x).kOK k=true) (hl:Nat.ble (len*k) 16777216=true):OpV P o e H (.d (.sl k (xs.map enc))):=
 .buildSlLe xs ho hp he hx (.refls _) hk hl
theorem OpV.lenV {α:Type} {x} {k i n:Nat} {l:List α} {enc:α→D} {t el el'} (ho:o.op = .call { callee:=.builtin .len,args:=#[x],argTypes:=#[t] }) (ht:P.underlying t=some (.slice el)) (hx:e x=some (.vec i n)) (hi:H[i]? = some (.vec el' k (l.map enc))) (hn:n=l.length):OpV P o e H (.d (.int l.length)):=
 .of_same λA0 bs w f _ hw=>by
  have h1:=hw x (by simp [ho,Op.operands,Call.operands]) _ hx;simp only [V.rep,hi] at h1;obtain ⟨cells,h2,_⟩:=h1.2 (by simpa using hn);have:∃ a cap,f x = .slice a n cap:=by
   rcases h2.2 with ⟨h,h0⟩ | ⟨g,cap,cur,h,_⟩
   ·exact ⟨none,0,by rw [h,h0]⟩
   ·exact ⟨_,cap,h⟩
  obtain ⟨a,cap,hp⟩:=this;subst hn;refine ⟨.int .i64 l.length,?_,zr.2 rfl⟩;simp [execOp,ho,resolve,invoke,builtin,Builtin.len_,hp,run_underlying ht,goInt]
theorem OpV.len {α:Type} {x} {k:Nat} {l:List α} {enc:α→D} {t el} (ho:o.op = .call { callee:=.builtin .len,args:=#[x],argTypes:=#[t] }) (ht:P.underlying t=some (.slice el)) (hx:e x=some (.d (.sl k (l.map enc)))):OpV P o e H (.d (.int l.length)):=by
 have:=OpV.len_sl (H:=H) ho ht hx;simpa using this
theorem OpV.idxV {α:Type} {t el el' x i} {k bi n:Nat} {l:List α} {enc:α→D} {a:Int} {v:α} (ho:o.op = .indexAddr t x i) (hx:e x=some (.vec bi n)) (hb:H[bi]? = some (.vec el' k (l.map enc))) (hn:n=l.length) (hi:e i=some (.d (.int a)))
  (ht:P.underlying t=some (.slice el)) (hs:(P.info? el).map (·.size)=some k) (hv:Go.Proofs.YtbnhmfnagdgcmaaGreatDoor.idx l a=some v):OpV P o e H (.el bi n a.toNat 0):=by
 obtain ⟨j,rfl,hj,rfl⟩:=idxS hv;refine .of_same λA0 bs w f _ hw=>?_
 have h1:=hw x (by simp [ho,Op.operands]) _ hx;have h2:=zr.1 (hw i (by simp [ho,Op.operands]) _ hi);simp only [V.rep,hb] at h1;obtain ⟨cells,h3,h4,h5⟩:=h1.2 (by simpa using hn);rcases h3.2 with ⟨h,h0⟩ | ⟨g,cap,cur,hp,hrest⟩
 ·omega
 cases hinf:P.info? el with
 | none=>simp [hinf] at hs
 | some inf=>
  have hsz:inf.size=k:=by simpa [hinf] using hs
  refine ⟨.pointer (some ⟨g,j*k,none⟩),?_,?_⟩
  ·have hlen:(0:Int)≤j∧(j:Int)<n:=by omega
   simp only [execOp,ho,hp,h2,Instr.indexAt,asIntOf,Sem.run_bind,Sem.run_pure,Result.andThen_ok,run_underlying ht];rw [if_pos hlen];simp [sizeOf,typeInfo,hinf,hsz,Addr.add_lit]
  ·simp only [V.rep,hb];refine ⟨by simp;omega,λ_=>⟨f x,cells,h3,h4,h5,g,by rw [hp];rfl,by simp⟩⟩
theorem el_cells {A0 bs w} {α:Type} {i n off k:Nat} {el} {l:List α} {enc:α→D} {a:Int} {v:α} {u} (hr:V.rep (Own A0 bs) w bs H (.el i n a.toNat off) u) (hi:H[i]? = some (.vec el k (l.map enc))) (hn:n=l.length) (hv:Go.Proofs.YtbnhmfnagdgcmaaGreatDoor.idx l a=some v) :
  ∃ b z,u = .pointer (some ⟨b,a.toNat*k+off,none⟩)∧D.rep (Own A0 bs) w (enc v) z∧zdW w b (a.toNat*k) z:=by
 obtain ⟨j,rfl,hj,rfl⟩:=idxS hv;simp only [V.rep,hi] at hr;obtain ⟨hdr,cells,h1,h2,h3,b,h4,h5⟩:=hr.2 (by simpa using hn);obtain ⟨z,g1,g2,g3⟩:=D.flat_get h3 j (by simpa using hj);refine ⟨b,z,h5,by simpa using g1,λq hq=>?_⟩;simp only [yq];have hq':=g3 q (by omega);have hsome:z.cells[q]? = some z.cells[q]:=uh hq;rw [hsome] at hq';have:=h1.cells (g:=b) h4 _ _ hq';rw [Addr.add_mid] at this;rw [hsome,← this];simp
theorem OpV.loadEl {α:Type} {t el x} {i n k:Nat} {s:Option Nat} {l:List α} {enc:α→D} {a:Int} {v:α} (ho:o.op = .load t x) (hx:e x=some (.el i n a.toNat 0)) (hi:H[i]? = some (.vec el k (l.map enc))) (hn:n=l.length) (hv:Go.Proofs.YtbnhmfnagdgcmaaGreatDoor.idx l a=some v)
  (ht:zE P t=some s) (hk:(enc v).shape=s):OpV P o e H (.d (enc v)):=
 .of_same λA0 bs w f _ hw=>by
  have h1:=hw x (by simp [ho,Op.operands]) _ hx;obtain ⟨b,z,hp,hz,hc⟩:=el_cells h1 hi hn hv;refine ⟨z,?_,by simp only [V.rep];exact hz⟩;simp only [uu] at hp;simp only [execOp,ho,hp,Sem.run_bind,zeS ht hz hk hc,Result.andThen_ok,Sem.run_pure]
end
end
end Go.Proofs.YtbnhmfnagdgcmaaGreatDoor
