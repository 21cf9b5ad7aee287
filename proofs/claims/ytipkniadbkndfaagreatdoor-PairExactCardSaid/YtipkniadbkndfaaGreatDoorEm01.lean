/- Part of the proof of one law of the seat. -/
import Derived.Below
import Derived.WalkKit
import Derived.Laws.AppendOwn
import Derived.LoopN
import Derived.Deep.MidRow
import Derived.StillTail
import Derived.Laws.AppendOwnNone
import Derived.Laws.MakeOwn
import Derived.Laws.Slices
import Derived.Laws.Strings
import Derived.Laws.Small
set_option linter.all false
set_option maxRecDepth 100000
set_option maxHeartbeats 40000000
namespace Go.Proofs.YtipkniadbkndfaaGreatDoor
open Go Go.RowKit
open Option renaming some->O,none->Y
open Bool renaming true->U,false->M,eq_iff_iff->we
open Decidable renaming decide->Z
open Inhabited renaming default->J
open List renaming length->xh,range->xn,replicate->xy,take_of_length_le->xV,drop_eq_nil_of_le->wb,getElem_of_mem->wh,mem_of_mem_take->ws,range'->wt,map_nil->wz,set_cons_zero->wP,getElem?_of_mem->wU,getElem?_append_left->vf,getElem?_toArray->vK,filterMap_cons->ta
open Go.Result renaming andThen_ok->xi
open Go.Op renaming operands->xk,intCmp->tj
open Go.Sem renaming run_bind->xr,run_pure->xt
open _root_.Array renaming replicate->xu,getElem?_append->wu,toArray_toList->vp,toList_map->vU
open Nat renaming blt->xA,ble->xQ,le_mul_of_pos_right->wV,min_eq_left->vh,add_mul->vm
open Go.RowKit.Below renaming heap_alloc->xE
open Classical renaming byContradiction->xG
open Go.Value renaming ownBlock->xI,cells->xX
open Go.Code renaming wp_mono->xU
open Go.Call renaming operands->xW
open Go.Deferred renaming ofValue->xY
open Go.Region renaming wanted->wg,ready->wr,binds->wZ
open Go.Instr renaming sureAddr->wj,loadAt->vS,fill->vX
open Go.Addr renaming add_lit->wq,add_mid->vT
open List.cons renaming injEq->wy
open Go.Oper renaming apart_spec->wD,upon->va,wp->vo
open Go.Act renaming eval->wG,put->vn
open Go.World renaming cell?_of_block->wT
open Go.Exit renaming inBlock->vl
open Go.Program renaming cellsOf->vW
open Go.Builtin renaming lenOf->u4,len_->tf
abbrev yc:=@_root_.Bool.and_eq_true
abbrev yd:=@_root_.List.getElem?_eq_some_iff
abbrev yh:=@_root_.Prod.mk.injEq
abbrev yi:=@_root_.List.getElem?_append_left
abbrev yk:=@_root_.Nat.le_refl
abbrev ym:=@_root_.Nat.zero_le
abbrev yn:=@_root_.Array.getElem?_eq_some_iff
abbrev yo:=@_root_.Option.some.injEq
abbrev yq:=@_root_.List.all_eq_true
abbrev yr:=@_root_.Int.toNat_natCast
abbrev yt:=@_root_.Nat.le_of_ble_eq_true
abbrev yu:=@_root_.List.mem_append
abbrev yx:=@_root_.List.getElem?_set_ne
abbrev yy:=@_root_.List.getElem?_set_self
abbrev yz:=@_root_.Bool.not_eq_true'
abbrev yA:=@_root_.Bool.true_and
abbrev yB:=@_root_.List.getElem?_eq_getElem
abbrev yC:=@_root_.List.mem_of_getElem?
abbrev yD:=@_root_.Nat.lt_of_lt_of_le
abbrev yE:=@_root_.Array.length_toList
abbrev yF:=@_root_.List.mem_cons
abbrev yH:=@_root_.Nat.mul_le_mul_right
abbrev yI:=@_root_.Nat.le_trans
abbrev yK:=@_root_.List.mem_singleton
abbrev yL:=@_root_.List.length_map
abbrev yM:=@_root_.List.append_assoc
abbrev yN:=@_root_.List.nil_append
abbrev yP:=@_root_.List.getElem?_append_right
abbrev yQ:=@_root_.Option.map_some
abbrev yS:=@_root_.List.getElem?_cons_zero
abbrev yT:=@_root_.List.length_append
abbrev yU:=@_root_.List.mem_range
abbrev yW:=@_root_.List.length_cons
abbrev yX:=@_root_.List.map_cons
abbrev yY:=@_root_.List.eq_nil_of_length_eq_zero
abbrev y0:=@_root_.Array.getElem?_toList
abbrev y6:=@_root_.List.getElem?_map
abbrev y7:=@_root_.List.mem_map
abbrev y8:=@_root_.Array.getD_eq_getD_getElem?
abbrev y9:=@_root_.Int.eq_ofNat_of_zero_le
abbrev ua:=@_root_.List.ext_getElem?
abbrev ub:=@_root_.List.length_drop
abbrev ug:=@_root_.Nat.zero_add
abbrev ui:=@_root_.List.length_take
abbrev uk:=@_root_.List.all_cons
abbrev ul:=@_root_.List.length_nil
abbrev um:=@_root_.Array.getElem?_eq_getElem
abbrev un:=@_root_.List.map_append
abbrev uo:=@_root_.beq_eq_false_iff_ne
abbrev uu:=@_root_.List.cons_append
abbrev uv:=@_root_.Nat.add_zero
abbrev uw:=@_root_.Nat.sub_self
abbrev uy:=@_root_.List.range_succ
abbrev uz:=@_root_.Nat.succ_mul
abbrev uA:=@_root_.List.take_append_drop
abbrev uE:=@_root_.List.flatMap_cons
abbrev uG:=@_root_.Nat.blt_eq
abbrev uH:=@_root_.Nat.lt_or_ge
abbrev uK:=@_root_.List.size_toArray
abbrev uM:=@_root_.List.length_range
abbrev uP:=@_root_.List.mem_or_eq_of_mem_set
abbrev uS:=@_root_.List.pairwise_cons
section
inductive D where|val(v:Value)|agg(cs:List D)|tup(cs:List D)|sl(k:Nat)(xs:List D)|ref(x:D)|fn(f:Fn)(first captured:List D)|mp(ks:List Value)(ds:List D)|err|osl(k:Nat)(xs:List D)
structure wfM (bo:List Nat)(cl:Nat):Prop where
 nd:bo.Nodup
 lt:∀x∈bo,x<cl
def zdr (w:World)(b off:Nat)(u:Value):Prop:=∀j,j<u.cells.size->w.cell? ⟨b,off+j,Y⟩=u.cells[j]?
mutual/--Value v represents datum d in world w; no block that is met is one of A. -/
def D.rep (A:Nat->Prop)(w:World):D->Value->Prop|.val x,v=>v=x|.agg cs,v=>∃vs:Array Value,v=.agg vs/\D.reps A w cs vs.toList|.tup cs,v=>∃vs:Array Value,v=.tuple vs/\D.reps A w cs vs.toList|.sl k xs,v=>∃a cap,v=.slice a xs.length cap/\xs.length<=cap/\(xs=[]\/∃b off,a=O ⟨b,off,Y⟩/\¬A b/\b<w.heap.size/\D.row A w b k xs off)|.ref x,v=>∃b off u,v=.pointer (O ⟨b,off,Y⟩)/\¬A b/\b<w.heap.size/\D.rep A w x u/\zdr w b off u|.fn f fs cs,v=>∃vs us:Array Value,v=.func f vs us/\D.reps A w fs vs.toList/\D.reps A w cs us.toList|.mp ks ds,v=>∃(b:Nat)(es:Array MapEntry)(clock:Nat),v=.map (O b)/\¬A b/\b<w.heap.size/\w.heap[b]?=O (.map es clock)/\es.toList.map (·.key)=ks/\wfM (es.toList.map (·.born)) clock/\D.reps A w ds (es.toList.map (·.val))|.err,v=>∃(t:TypeId)(u:Value),v=.iface t u|.osl k xs,v=>∃a cap,v=.slice a xs.length cap/\xs.length<=cap/\(xs=[]->a=Y/\cap=0)/\(xs=[]\/∃b off,a=O ⟨b,off,Y⟩/\¬A b/\b<w.heap.size/\D.row A w b k xs off)
def D.reps (A:Nat->Prop)(w:World):List D->List Value->Prop|[],vs=>vs=[]|d::ds,vs=>∃v vs',vs=v::vs'/\D.rep A w d v/\D.reps A w ds vs'
def D.row (A:Nat->Prop)(w:World)(b k:Nat):List D->Nat->Prop|[],_=>True|x::xs,off=>(∃u,D.rep A w x u/\zdr w b off u/\u.cells.size=k)/\D.row A w b k xs (off+k)
end
class Drw where dr:Prop
abbrev DT:Drw:=⟨True⟩
variable[Drw]
structure Fr (W:Nat->Prop)(w w':World):Prop where
 os:w'.os=w.os
 tape:w'.tape=w.tape
 output:w'.output=w.output
 size:w.heap.size<=w'.heap.size
 block:∀b,b<w.heap.size->¬W b->w'.heap[b]?=w.heap[b]?
 drawn:Drw.dr->w.drawn<=w'.drawn
theorem Fr.refl (W w):Fr W w w:=⟨rfl,rfl,rfl,yk _,λ_ _ _=>rfl,λ_=>yk _⟩
theorem Fr.trans {W a b c}(h:Fr W a b)(k:Fr W b c):Fr W a c:=⟨k.os.trans h.os,k.tape.trans h.tape,k.output.trans h.output,yI h.size k.size,λi hi hW=>(k.block i (yD hi h.size) hW).trans<|h.block i hi hW,λd=>yI (h.drawn d)<|k.drawn d⟩
theorem Fr.mono {W W' a b}(h:Fr W a b)(hW:∀i,i<a.heap.size->W i->W' i):Fr W' a b:=⟨h.os,h.tape,h.output,h.size,λi hi hn=>h.block i hi λhw=>hn<|hW i hi hw,h.drawn⟩
theorem Fr.cell {W w w'}(h:Fr W w w'){p}(hp:p.block<w.heap.size)(hn:¬W p.block):w'.cell? p=w.cell? p:=wT (w:=w)<|h.block p.block hp hn
theorem Fr.drew {W a w}(h:Fr W a w):Fr W a w.drew:=⟨h.os,h.tape,h.output,h.size,h.block,λd=>Nat.le_succ_of_le<|h.drawn d⟩
class zuV where gs:List<|Nat×Obj
def zdv [zuV](A:Nat->Prop)(w:World):Prop:=∀p∈zuV.gs,¬A p.1/\w.heap[p.1]?=O p.2
theorem zdv.lt [zuV]{A w}(h:zdv A w){p}(hp:p∈zuV.gs):p.1<w.heap.size:=(yn.1 (h p hp).2).1
theorem zdv.fr [zuV]{A A' W w w'}(h:zdv A w)(hf:Fr W w w')(hW:∀b,W b->A b)(hA:∀b,b<w.heap.size->A' b->A b):zdv A' w':=λp hp=>⟨λha=>(h p hp).1<|hA _ (h.lt hp) ha,by rw[hf.block _ (h.lt hp) λhw=>(h p hp).1<|hW _ hw];exact(h p hp).2⟩
theorem zdr.fr {W w w'}(h:Fr W w w'){b off u}(hb:b<w.heap.size)(hn:¬W b)(hc:zdr w b off u):zdr w' b off u:=by intro j hj;rw[h.cell (p:=⟨b,off+j,Y⟩) hb hn];exact hc j hj
mutual
theorem D.zvU {A A' W w w'}(h:Fr W w w')(hW:∀b,W b->A b)(hA:∀b,b<w.heap.size->A' b->A b):∀(d:D)(v:Value),D.rep A w d v->D.rep A' w' d v
 |.val x,v,hv=>by simpa only[D.rep]using hv|.agg cs,v,hv=>by simp only[D.rep]at hv|-;obtain⟨vs,e,hr⟩:=hv;exact⟨vs,e,D.zvs h hW hA cs _ hr⟩|.tup cs,v,hv=>by simp only[D.rep]at hv|-;obtain⟨vs,e,hr⟩:=hv;exact⟨vs,e,D.zvs h hW hA cs _ hr⟩|.sl k xs,v,hv=>by
  simp only[D.rep]at hv|-;obtain⟨a,cap,e,hcap,hr⟩:=hv;refine⟨a,cap,e,hcap,?_⟩;rcases hr with hr|⟨b,off,ea,hb,hs,hr⟩;·exact .inl hr
  ·exact .inr ⟨b,off,ea,λhb'=>hb<|hA b hs hb',yD hs h.size,D.zzG h hW hA b k hb hs xs off hr⟩|.ref x,v,hv=>by simp only[D.rep]at hv|-;obtain⟨b,off,u,e,hb,hs,hr,hc⟩:=hv;exact⟨b,off,u,e,λhb'=>hb<|hA b hs hb',yD hs h.size,D.zvU h hW hA x u hr,hc.fr h hs λhw=>hb<|hW b hw⟩|.fn f fs cs,v,hv=>by simp only[D.rep]at hv|-;obtain⟨vs,us,e,h1,h2⟩:=hv;exact⟨vs,us,e,D.zvs h hW hA fs _ h1,D.zvs h hW hA cs _ h2⟩|.mp ks ds,v,hv=>by simp only[D.rep]at hv|-;obtain⟨b,es,clock,e,hb,hs,hh,h1,hwf,h2⟩:=hv;exact⟨b,es,clock,e,λhb'=>hb<|hA b hs hb',yD hs h.size,by rw[h.block b hs λhw=>hb<|hW b hw,hh],h1,hwf,D.zvs h hW hA ds _ h2⟩|.err,v,hv=>by simpa only[D.rep]using hv|.osl k xs,v,hv=>by
  simp only[D.rep]at hv|-;obtain⟨a,cap,e,hcap,hn,hr⟩:=hv;refine⟨a,cap,e,hcap,hn,?_⟩;rcases hr with hr|⟨b,off,ea,hb,hs,hr⟩;·exact .inl hr
  ·exact .inr ⟨b,off,ea,λhb'=>hb<|hA b hs hb',yD hs h.size,D.zzG h hW hA b k hb hs xs off hr⟩
theorem D.zvs {A A' W w w'}(h:Fr W w w')(hW:∀b,W b->A b)(hA:∀b,b<w.heap.size->A' b->A b):∀(ds:List D)(vs:List Value),D.reps A w ds vs->D.reps A' w' ds vs|[],vs,hv=>by simpa only[D.reps]using hv|d::ds,vs,hv=>by simp only[D.reps]at hv|-;obtain⟨v,vs',e,h1,h2⟩:=hv;exact⟨v,vs',e,D.zvU h hW hA d v h1,D.zvs h hW hA ds vs' h2⟩
theorem D.zzG {A A' W w w'}(h:Fr W w w')(hW:∀b,W b->A b)(hA:∀b,b<w.heap.size->A' b->A b)(b k)(hb:¬A b)(hs:b<w.heap.size):∀(xs:List D)(off:Nat),D.row A w b k xs off->D.row A' w' b k xs off|[],_,_=>by simp only[D.row]|x::xs,off,hv=>by simp only[D.row]at hv|-;obtain⟨⟨u,h1,h2,h3⟩,h4⟩:=hv;exact⟨⟨u,D.zvU h hW hA x u h1,h2.fr h hs λhw=>hb<|hW b hw,h3⟩,D.zzG h hW hA b k hb hs xs (off+k) h4⟩
end
theorem D.zzH {A w b k}:∀{xs:List D}{off:Nat},D.row A w b k xs off->∀(i:Nat)(hi:i<xs.length),∃u,D.rep A w xs[i] u/\zdr w b (off+i*k) u/\u.cells.size=k
 |[],_,_,i,hi=>absurd hi<|by simp|x::xs,off,hv,0,_=>by simp only[D.row]at hv;obtain⟨h,_⟩:=hv;simpa using h|x::xs,off,hv,i+1,hi=>by
  simp only[D.row]at hv;obtain⟨_,h⟩:=hv;obtain⟨u,h1,h2,h3⟩:=D.zzH h i (by simpa using hi);refine⟨u,by simpa using h1,?_,h3⟩;have e:off+(i+1)*k=off+k+i*k:=by rw[uz];omega
  rw[e];exact h2
theorem D.zva {A w}:∀{ds:List D}{vs:List Value},D.reps A w ds vs->vs.length=ds.length|[],vs,h=>by simp only[D.reps]at h;simp[h]|d::ds,vs,h=>by simp only[D.reps]at h;obtain⟨v,vs',rfl,_,h2⟩:=h;simp[D.zva h2]
theorem D.zvF {A w}:∀{ds:List D}{vs:List Value},D.reps A w ds vs->∀(i:Nat)(d:D),ds[i]?=O d->∃v,vs[i]?=O v/\d.rep A w v|[],vs,h,i,d,hd=>by simp at hd|x::ds,vs,h,0,d,hd=>by simp only[D.reps]at h;obtain⟨v,vs',rfl,h1,_⟩:=h;simp at hd;subst hd;exact⟨v,by simp,h1⟩|x::ds,vs,h,i+1,d,hd=>by simp only[D.reps]at h;obtain⟨v,vs',rfl,_,h2⟩:=h;simpa using D.zvF h2 i d<|by simpa using hd
theorem D.zwc {A w}:∀(n:Nat){ds:List D}{vs:List Value},D.reps A w ds vs->D.reps A w (ds.drop n) (vs.drop n)|0,_,_,h=>by simpa using h|n+1,[],vs,h=>by simp only[D.reps]at h;subst h;simp[D.reps]|n+1,d::ds,vs,h=>by simp only[D.reps]at h;obtain⟨v,vs',rfl,_,h2⟩:=h;simpa using D.zwc n h2
theorem D.zwd {A w}:∀(n:Nat){ds:List D}{vs:List Value},D.reps A w ds vs->D.reps A w (ds.take n) (vs.take n)|0,_,_,h=>by simp[D.reps]|n+1,[],vs,h=>by simp only[D.reps]at h;subst h;simp[D.reps]|n+1,d::ds,vs,h=>by simp only[D.reps]at h;obtain⟨v,vs',rfl,h1,h2⟩:=h;simp only[List.take_succ_cons,D.reps];exact⟨v,_,rfl,h1,D.zwd n h2⟩
end
section
variable[zuV][Drw]
inductive V where|d(x:D)|loc(i off:Nat)|vec(i n:Nat)|arr(i off n:Nat)|el(i n j off:Nat)|sub(i n lo hi:Nat)|agg(cs:List V)|tup(cs:List V)|fn(f:Fn)(first captured:List V)|mp(i:Nat)|itp(i:Nat)|que(i m:Nat)|qel(i m j:Nat)|junk
inductive Blk where|box(t:TypeId)(cs:List V)|vec(t:TypeId)(k:Nat)(xs:List D)|arr(t:TypeId)(k:Nat)(xs:List D)|mp(bo:List Nat)(ks:List Value)(ds:List D)(clock:Nat)|it(j since:Nat)(seen:List Nat)(last:Nat)|que(s:Nat)(t:TypeId)(k:Nat)(xs:List D)|itd(bo:List Nat)(ks:List Value)(ds:List D)(clock since:Nat)(seen:List Nat)(last:Nat)|dead
def D.flat (A:Nat->Prop)(w:World)(k:Nat):List D->List Value->Prop|[],cs=>cs=[]|x::xs,cs=>∃u cs',cs=u.cells.toList++cs'/\u.cells.size=k/\D.rep A w x u/\D.flat A w k xs cs'
structure zyi (A:Nat->Prop)(w:World)(b o cap k:Nat)(t:TypeId)(xs:List D):Prop where
 le:xs.length<=cap
 row:∃cells:Array Value,w.heap[b]?=O (.cells cells t (0,0))/\o+cap*k<=cells.size/\∃cs,D.flat A w k xs cs/\∀(j:Nat)(v:Value),cs[j]?=O v->cells[o+j]?=O v
mutual
def V.rep (A:Nat->Prop)(w:World)(bs:List<|Option Nat)(H:List Blk):V->Value->Prop
 |.d x,v=>x.rep A w v|.loc i off,v=>match H[i]? with|some<|.box _ _=>∃b,bs[i]?=O (O b)/\v=.pointer (O ⟨b,off,Y⟩)|some .dead=>True|_=>False
 |.mp i,v=>match H[i]? with
  |some<|.mp _ _ _ _=>∃b,bs[i]?=O (O b)/\v=.map (O b)|some .dead=>True|_=>False
 |.itp i,v=>match H[i]? with
  |some<|.it _ _ _ _=>∃b,bs[i]?=O (O b)/\v=.pointer (O ⟨b,0,Y⟩)|some<|.itd _ _ _ _ _ _ _=>∃b,bs[i]?=O (O b)/\v=.pointer (O ⟨b,0,Y⟩)|some .dead=>True|_=>False
 |.que i m,v=>match H[i]? with
  |some<|.que s t k xs=>m<=s/\(m=s->∃b o cap,bs[i]?=O (O b)/\v=.slice (O ⟨b,o,Y⟩) xs.length cap/\zyi A w b o cap k t xs)|some .dead=>True|_=>False
 |.qel i m j,v=>match H[i]? with|some<|.que s t k xs=>m<=s/\(m=s->∃b o cap,bs[i]?=O (O b)/\v=.pointer (O ⟨b,o+j*k,Y⟩)/\j<xs.length/\zyi A w b o cap k t xs)|some .dead=>True|_=>False
 |.vec i n,v=>match H[i]? with
  |some<|.vec t k xs=>n<=xs.length/\(n=xs.length->∃cells,w.ownsRow 0 t k v n cells/\bs[i]?=O v.ownBlock/\D.flat A w k xs cells)|some .dead=>True|_=>False
 |.arr i off n,v=>match H[i]? with|some<|.arr _ k xs=>∃b,bs[i]?=O (O b)/\off+n<=xs.length/\v=.slice (O ⟨b,off*k,Y⟩) n (xs.length-off)|some .dead=>True|_=>False
 |.el i n j off,v=>match H[i]? with
  |some<|.vec t k xs=>n<=xs.length/\(n=xs.length->∃hdr cells,w.ownsRow 0 t k hdr n cells/\bs[i]?=O hdr.ownBlock/\D.flat A w k xs cells/\∃b,hdr.ownBlock=O b/\v=.pointer (O ⟨b,j*k+off,Y⟩))|some .dead=>True|_=>False
 |.sub i n lo hi,v=>match H[i]? with|some<|.vec t k xs=>n<=xs.length/\(n=xs.length->∃hdr cells,w.ownsRow 0 t k hdr n cells/\bs[i]?=O hdr.ownBlock/\D.flat A w k xs cells/\lo<=hi/\hi<=n/\∃a cap,v=.slice a (hi-lo) cap/\hi-lo<=cap/\(lo<hi->∃b,hdr.ownBlock=O b/\a=O ⟨b,lo*k,Y⟩))|some .dead=>True|_=>False
 |.agg cs,v=>∃vs:Array Value,v=.agg vs/\V.reps A w bs H cs vs.toList|.tup cs,v=>∃vs:Array Value,v=.tuple vs/\V.reps A w bs H cs vs.toList|.fn f fs cs,v=>∃vs us:Array Value,v=.func f vs us/\V.reps A w bs H fs vs.toList/\V.reps A w bs H cs us.toList|.junk,_=>True
def V.reps (A:Nat->Prop)(w:World)(bs:List<|Option Nat)(H:List Blk):List V->List Value->Prop|[],vs=>vs=[]|x::xs,vs=>∃v vs',vs=v::vs'/\V.rep A w bs H x v/\V.reps A w bs H xs vs'
end
def Blk.rep (A:Nat->Prop)(w:World)(bs:List<|Option Nat)(H:List Blk)(i:Nat):Blk->Prop
 |.box t cs=>∃b vs,bs[i]?=O (O b)/\w.heap[b]?=O (.cells vs t (0,0))/\V.reps A w bs H cs vs.toList|.vec _ _ _=>True|.arr t k xs=>∃b vs,bs[i]?=O (O b)/\w.heap[b]?=O (.cells vs t (0,0))/\D.flat A w k xs vs.toList|.mp bo ks ds clock=>∃(b:Nat)(es:Array MapEntry),bs[i]?=O (O b)/\w.heap[b]?=O (.map es clock)/\es.toList.map (·.born)=bo/\es.toList.map (·.key)=ks/\D.reps A w ds (es.toList.map (·.val))|.it j since seen last=>match H[j]? with|some<|.mp _ _ _ _=>∃b m,bs[i]?=O (O b)/\bs[j]?=O (O m)/\w.heap[b]?=O (.mapIter (O m) since seen.toArray last)|some .dead=>True|_=>False
 |.que _ _ _ _=>True|.itd bo ks ds clock since seen last=>∃(b mb:Nat)(es:Array MapEntry),bs[i]?=O (O b)/\¬A mb/\mb<w.heap.size/\w.heap[mb]?=O (.map es clock)/\es.toList.map (·.born)=bo/\es.toList.map (·.key)=ks/\D.reps A w ds (es.toList.map (·.val))/\w.heap[b]?=O (.mapIter (O mb) since seen.toArray last)|.dead=>True
def Own (A0:Nat->Prop)(bs:List<|Option Nat)(b:Nat):Prop:=A0 b\/O b∈bs
structure zxk (A0:Nat->Prop)(bs:List<|Option Nat)(w:World):Prop where
 apart:∀(i j:Nat)(b:Nat),bs[i]?=O (O b)->bs[j]?=O (O b)->i=j
 not:∀b,O b∈bs->¬A0 b
 lt:∀b,O b∈bs->b<w.heap.size
 zu5:∀b,A0 b->b<w.heap.size
 glob:zdv (Own A0 bs) w
def look (t:Nat):List (Nat×V)->Option V|[]=>Y|(u,v)::r=>if t=u then O v else look t r
structure St where
 T:List<|Nat×V
 H:List Blk
def St.put (s:St)(d:Option Tmp)(v:V):St:=match d with|some d=>{s with T:=(d,v)::s.T}|none=>s
mutual
def V.under (n:Nat):V->Bool|.d _|.junk=>U|.loc i _|.vec i _|.arr i _ _|.el i _ _ _|.sub i _ _ _|.mp i|.itp i|.que i _|.qel i _ _=>xA i n|.agg cs|.tup cs=>V.zw3 n cs|.fn _ a b=>V.zw3 n a&&V.zw3 n b
def V.zw3 (n:Nat):List V->Bool|[]=>U|x::xs=>x.under n&&V.zw3 n xs
end
structure Ctx where
 A0:Nat->Prop
 own0:Nat->Prop
 w0:World
 n:Nat
 esc:Act->World->Prop:=λ_ _=>False
 gh:List<|V×Value:=[]gn:Nat:=0
 df:List Deferred:=[]
structure R (C:Ctx)(bs:List<|Option Nat)(s:St)(a:Act)(w:World):Prop where
 own:zxk C.A0 bs w
 len:bs.length=s.H.length
 blk:∀(i:Nat)(k:Blk),s.H[i]?=O k->k.rep (Own C.A0 bs) w bs s.H i
 tmp:∀(t:Nat)(v:V),look t s.T=O v->t<C.n/\V.rep (Own C.A0 bs) w bs s.H v (a.tmps.getD t undef)defers:a.defers=C.df
 size:a.tmps.size=C.n
 fr:Fr C.own0 C.w0 w
 new:∀b,O b∈bs->C.own0 b\/C.w0.heap.size<=b
 gh:∀p∈C.gh,p.1.under C.gn=U/\V.rep (Own C.A0 bs) w bs s.H p.1 p.2
def QR (C:Ctx)(Q:Exit->St->Prop):Exit->Act->World->Prop:=λe a' w'=>(∃bs' s',Q e s'/\R C bs' s' a' w')\/e=.ret/\C.esc a' w'
structure Tri (P:Program)(C:Ctx)(c:Code)(Q:Exit->St->Prop)(s:St):Prop where run:∀bs a w,R C bs s a w->c.wp P (QR C Q) a w
theorem Tri.mono {P C c Q Q' s}(h:Tri P C c Q s)(hq:∀e s,Q e s->Q' e s):Tri P C c Q' s:=⟨λg a w f=>xU (λ_ _ _ h=>h.imp (λ⟨d,i,j,b⟩=>⟨d,i,hq _ _ j,b⟩) λh=>h)<|h.run g a w f⟩
theorem Tri.skip {P C Q s}(h:Q .normal s):Tri P C .skip Q s:=⟨λb _ _ a=>wp_skip<|.inl ⟨b,s,h,a⟩⟩
theorem Tri.ret {P C Q s}(h:Q .ret s):Tri P C .ret Q s:=⟨λb _ _ a=>wp_ret<|.inl ⟨b,s,h,a⟩⟩
theorem Tri.exit {P C Q s id}(h:Q (.exit id) s):Tri P C (.exit id) Q s:=⟨λb _ _ a=>wp_exit<|.inl ⟨b,s,h,a⟩⟩
def zxi (next:St->Prop)(Q:Exit->St->Prop):Exit->St->Prop|.normal,s=>next s|e,s=>Q e s
def zfh (id:Nat)(Q:Exit->St->Prop):Exit->St->Prop|.exit i,s=>if i=id then Q .normal s else Q (.exit i) s|e,s=>Q e s
theorem Tri.seq {P C Q s x y}(h:Tri P C x (zxi (Tri P C y Q) Q) s):Tri P C (.seq x y) Q s:=by
 refine⟨λi a w k=>?_⟩;refine wp_seq<|xU ?_<|h.run i a w k;rintro e l g(⟨c,j,d,b⟩|⟨rfl,f⟩)
 ·cases e<;>simp only[zxi]at d|-;case normal=>exact d.run c l g b
  all_goals exact .inl ⟨c,j,d,b⟩
 ·exact .inr ⟨rfl,f⟩
theorem Tri.block {P C Q s id c}(h:Tri P C c (zfh id Q) s):Tri P C (.block id c) Q s:=by
 refine⟨λk a w m=>?_⟩;refine wp_block<|xU ?_<|h.run k a w m;rintro e n o(⟨d,g,f,b⟩|⟨rfl,l⟩)
 ·cases e<;>simp only[vl,zfh]at f|-;case exit i=>split at f<;>rename_i j<;>simp only[j]<;>exact .inl ⟨d,g,f,b⟩
  all_goals exact .inl ⟨d,g,f,b⟩
 ·exact .inr ⟨rfl,l⟩
def ev (T:List<|Nat×V):Operand->Option V|.tmp t=>look t T|.const v=>O<|.d<|.val v|.func f=>O<|.d<|.fn (.func f) [] []|.global g=>O<|.d<|.val<|.pointer<|O ⟨g,0,Y⟩
end
section
variable[zuV][Drw]
def zg:Nat->Prop:=λ_=>False
theorem D.zwr {A}{w w'}(h:Fr zg w w'){d:D}{v}(hv:d.rep A w v):d.rep A w' v:=D.zvU h (λ_ x=>x.elim) (λ_ _ x=>x) d v hv
theorem D.zyb {A w w'}(h:Fr zg w w'){ds vs}(hv:D.reps A w ds vs):D.reps A w' ds vs:=D.zvs h (λ_ x=>x.elim) (λ_ _ x=>x) ds vs hv
theorem D.zve {A A' W w w' k}(h:Fr W w w')(hW:∀b,W b->A b)(hA:∀b,b<w.heap.size->A' b->A b):∀(xs)(cs),D.flat A w k xs cs->D.flat A' w' k xs cs|[],cs,c=>by grind[D.flat]|x::xs,cs,c=>by obtain⟨u,a,e,f,g,d⟩:=c;exact⟨u,a,e,f,D.zvU h hW hA x u g,D.zve h hW hA xs a d⟩
theorem D.zwa {A w k}:∀{xs}{cs},D.flat A w k xs cs->cs.length=xs.length*k|[],cs,h=>by grind[D.flat]|x::xs,cs,h=>by obtain⟨u,b,rfl,c,_,a⟩:=h;simp only[yT,yE,D.zwa a,yW,vm];omega
theorem D.zwq {A w k}:∀{xs ys}{cs ds},D.flat A w k xs cs->D.flat A w k ys ds->D.flat A w k (xs++ys) (cs++ds)|[],ys,cs,ds,h,b=>by grind[D.flat]|x::xs,ys,cs,ds,h,b=>by obtain⟨u,a,rfl,d,e,c⟩:=h;exact⟨u,a++ds,by simp,d,e,D.zwq c b⟩
theorem zyi.fr {A A' W w w' b o cap k t xs}(q:zyi A w b o cap k t xs)(h:Fr W w w')(hb:¬W b)(hW:∀b,W b->A b)(hA:∀b,b<w.heap.size->A' b->A b):zyi A' w' b o cap k t xs:=by obtain⟨g,a,e,f,c,i,d⟩:=q;exact⟨g,a,by rw[h.block b (yn.1 e).1 hb];grind,f,c,D.zve h hW hA xs c i,d⟩
mutual
theorem V.zw8 {A A' w w' bs H row}(h:Fr (λb=>row=O b) w w')(hrow:∀b,row=O b->A b/\∀i:Nat,bs[i]?≠O (O b))(hA:∀b,b<w.heap.size->A' b->A b):∀(x:V)(v:Value),V.rep A w bs H x v->V.rep A' w' bs H x v
 |.d x,v,hv=>by simp only[V.rep]at hv|-;exact D.zvU h (λb hb=>(hrow b hb).1) hA x v hv|.loc i off,v,hv=>by simpa only[V.rep]using hv|.vec i n,v,hv=>by
  simp only[V.rep]at hv|-;split at hv;·rename_i t k xs he;refine⟨hv.1,λhn=>?_⟩;obtain⟨cells,h1,h2,h3⟩:=hv.2 hn;exact⟨cells,h1.kept (row:=row) ⟨h.os,h.tape,h.output,h.size,λb hb hne=>h.block b hb λe=>hne e.symm⟩<|by cases hob:v.ownBlock with|none=>exact .inl rfl|some b=>exact .inr λe=>(hrow b e.symm).2 i<|by rw[h2,hob],h2,D.zve h (λb hb=>(hrow b hb).1) hA xs cells h3⟩
  ·trivial
  ·exact hv.elim|.arr i off n,v,hv=>by simpa only[V.rep]using hv|.el i n j off,v,hv=>by
  simp only[V.rep]at hv|-;split at hv;·rename_i t k xs he;refine⟨hv.1,λhn=>?_⟩;obtain⟨hdr,cells,h1,h2,h3,h4⟩:=hv.2 hn;exact⟨hdr,cells,h1.kept (row:=row) ⟨h.os,h.tape,h.output,h.size,λb hb hne=>h.block b hb λe=>hne e.symm⟩<|by cases hob:hdr.ownBlock with
    |none=>exact .inl rfl|some b=>exact .inr λe=>(hrow b e.symm).2 i<|by rw[h2,hob],h2,D.zve h (λb hb=>(hrow b hb).1) hA xs cells h3,h4⟩
  ·trivial
  ·exact hv.elim|.sub i n lo hi,v,hv=>by
  simp only[V.rep]at hv|-;split at hv;·rename_i t k xs he;refine⟨hv.1,λhn=>?_⟩;obtain⟨hdr,cells,h1,h2,h3,h4⟩:=hv.2 hn;exact⟨hdr,cells,h1.kept (row:=row) ⟨h.os,h.tape,h.output,h.size,λb hb hne=>h.block b hb λe=>hne e.symm⟩<|by cases hob:hdr.ownBlock with
    |none=>exact .inl rfl|some b=>exact .inr λe=>(hrow b e.symm).2 i<|by rw[h2,hob],h2,D.zve h (λb hb=>(hrow b hb).1) hA xs cells h3,h4⟩
  ·trivial
  ·exact hv.elim|.agg cs,v,hv=>by simp only[V.rep]at hv|-;obtain⟨vs,e,hr⟩:=hv;exact⟨vs,e,V.zwX h hrow hA cs _ hr⟩|.tup cs,v,hv=>by simp only[V.rep]at hv|-;obtain⟨vs,e,hr⟩:=hv;exact⟨vs,e,V.zwX h hrow hA cs _ hr⟩|.fn f fs cs,v,hv=>by simp only[V.rep]at hv|-;obtain⟨vs,us,e,h1,h2⟩:=hv;exact⟨vs,us,e,V.zwX h hrow hA fs _ h1,V.zwX h hrow hA cs _ h2⟩|.mp i,v,hv=>by simpa only[V.rep]using hv|.itp i,v,hv=>by simpa only[V.rep]using hv|.que i m,v,hv=>by
  simp only[V.rep]at hv|-;split at hv;·refine⟨hv.1,λhn=>?_⟩;obtain⟨b,o,cap,h1,h2,h3⟩:=hv.2 hn;exact⟨b,o,cap,h1,h2,h3.fr h (λe=>(hrow b e).2 i h1) (λb hb=>(hrow b hb).1) hA⟩
  ·trivial
  ·exact hv.elim|.qel i m j,v,hv=>by
  simp only[V.rep]at hv|-;split at hv;·refine⟨hv.1,λhn=>?_⟩;obtain⟨b,o,cap,h1,h2,hj,h3⟩:=hv.2 hn;exact⟨b,o,cap,h1,h2,hj,h3.fr h (λe=>(hrow b e).2 i h1) (λb hb=>(hrow b hb).1) hA⟩
  ·trivial
  ·exact hv.elim|.junk,_,_=>by simp only[V.rep]
theorem V.zwX {A A' w w' bs H row}(h:Fr (λb=>row=O b) w w')(hrow:∀b,row=O b->A b/\∀i:Nat,bs[i]?≠O (O b))(hA:∀b,b<w.heap.size->A' b->A b):∀(xs:List V)(vs:List Value),V.reps A w bs H xs vs->V.reps A' w' bs H xs vs|[],vs,hv=>by simpa only[V.reps]using hv|x::xs,vs,hv=>by simp only[V.reps]at hv|-;obtain⟨v,vs',e,h1,h2⟩:=hv;exact⟨v,vs',e,V.zw8 h hrow hA x v h1,V.zwX h hrow hA xs vs' h2⟩
end
theorem Fr.zzF {w w'}(h:Fr zg w w'):Fr (λb=>(Y:Option Nat)=O b) w w':=h.mono λ_ _ x=>x.elim
theorem V.zxq {A A' w w' bs H}(h:Fr zg w w')(hA:∀b,b<w.heap.size->A' b->A b)(x v)(hv:V.rep A w bs H x v):V.rep A' w' bs H x v:=V.zw8 h.zzF (λ_ x=>by cases x) hA x v hv
theorem V.zwr {A w w' bs H}(h:Fr zg w w')(x v)(hv:V.rep A w bs H x v):V.rep A w' bs H x v:=V.zxq h (λ_ _ x=>x) x v hv
theorem Blk.zw8 {A A' w w' bs H}{row}(h:Fr (λb=>row=O b) w w')(hrow:∀b,row=O b->A b/\∀i:Nat,bs[i]?≠O (O b))(hA:∀b,b<w.heap.size->A' b->A b)(i)(k:Blk)(hk:k.rep A w bs H i):k.rep A' w' bs H i:=by cases k with
 |box t cs=>obtain⟨b,o,a,d,c⟩:=hk;exact⟨b,o,a,by rw[h.block b (yn.1 d).1 λe=>(hrow b e).2 i a];grind,V.zwX h hrow hA cs _ c⟩|arr t k xs=>obtain⟨b,o,a,d,c⟩:=hk;exact⟨b,o,a,by rw[h.block b (yn.1 d).1 λe=>(hrow b e).2 i a];grind,D.zve h (λb f=>(hrow b f).1) hA xs _ c⟩|mp bo ks ds clock=>obtain⟨b,l,a,d,c,p,n⟩:=hk;exact⟨b,l,a,by rw[h.block b (yn.1 d).1 λe=>(hrow b e).2 i a];grind,c,p,D.zvs h (λb f=>(hrow b f).1) hA ds _ n⟩|it j since seen last=>
  simp only[Blk.rep]at hk|-;split at hk;·obtain⟨b,m,a,d,c⟩:=hk;exact⟨b,m,a,d,by rw[h.block b (yn.1 c).1 λe=>(hrow b e).2 i a];grind⟩
  ·trivial
  simp_all|itd bo ks ds clock since seen last=>obtain⟨b,g,l,a,d,c,p,n,r,u,q⟩:=hk;exact⟨b,g,l,a,λe=>d<|hA g c e,yD c h.size,by rw[h.block g c λe=>d (hrow g e).1];grind,n,r,D.zvs h (λb f=>(hrow b f).1) hA ds _ u,by rw[h.block b (yn.1 q).1 λe=>(hrow b e).2 i a];grind⟩|vec t k xs=>trivial|que s t k xs=>trivial|dead=>trivial
theorem Blk.zxq {A A' w w' bs H}(h:Fr zg w w')(hA:∀b,b<w.heap.size->A' b->A b)(i)(k:Blk)(hk:k.rep A w bs H i):k.rep A' w' bs H i:=Blk.zw8 h.zzF (λ_ x=>by cases x) hA i k hk
theorem Blk.zwr {A w w' bs H}(h:Fr zg w w')(i)(k:Blk)(hk:k.rep A w bs H i):k.rep A w' bs H i:=Blk.zxq h (λ_ _ x=>x) i k hk
theorem zxk.ext {A0 bs w w'}(h:zxk A0 bs w)(hf:Fr zg w w'):zxk A0 bs w':=⟨h.apart,h.not,λb a=>yD (h.lt b a) hf.size,λb a=>yD (h.zu5 b a) hf.size,h.glob.fr hf (λ_ x=>x.elim) λ_ _ h=>h⟩
structure Mem (A0:Nat->Prop)(bs:List<|Option Nat)(H:List Blk)(w:World):Prop where
 own:zxk A0 bs w
 len:bs.length=H.length
 blk:∀(i:Nat)(k:Blk),H[i]?=O k->k.rep (Own A0 bs) w bs H i
theorem Mem.ext {A0 bs H w w'}(m:Mem A0 bs H w)(h:Fr zg w w'):Mem A0 bs H w':=⟨m.own.ext h,m.len,λi k a=>Blk.zwr h i k<|m.blk i k a⟩
theorem R.mem {C bs s a w}(h:R C bs s a w):Mem C.A0 bs s.H w:=⟨h.own,h.len,h.blk⟩
def zfE (P:Program)(K:Value->World->Prop):Result Next->Prop|.ok (.value u) w'=>K u w'|.ok .skip w'=>K undef w'|.ok (.enter f args) w'=>Calls P f args w' λe w''=>∃u,e=.returned u/\K u w''|_=>False
structure OpV (P:Program)(o:Oper)(e:Operand->Option V)(H:List Blk)(v:V):Prop where run:∀(A0:Nat->Prop)(bs:List<|Option Nat)(w:World)(f:Operand->Value),Mem A0 bs H w->(∀x∈o.op.operands,∀y,e x=O y->V.rep (Own A0 bs) w bs H y (f x))->(∀c,f (.const c)=c)->(∀k,f (.func k)=.func (.func k) #[] #[])->zfE P (λu w'=>Fr zg w w'/\V.rep (Own A0 bs) w' bs H v u) ((execOp f o).run P w)
theorem zbn (t d v T):look t ((d,v)::T)=if t=d then O v else look t T:=rfl
theorem zdb (a:Array Value)(d t)(u x)(hd:d<a.size):(a.setIfInBounds d u).getD t x=if t=d then u else a.getD t x:=by
 simp only[y8];grind
theorem R.ev {C bs s a w}(h:R C bs s a w){x y}(hx:ev s.T x=O y):V.rep (Own C.A0 bs) w bs s.H y<|a.eval x:=by cases x with|tmp t=>exact(h.tmp t y hx).2|const v=>grind[Go.Proofs.YtipkniadbkndfaaGreatDoor.ev,V.rep,D.rep,wG]|func f=>grind[Go.Proofs.YtipkniadbkndfaaGreatDoor.ev,V.rep,D.rep,D.reps,wG]|global g=>grind[Go.Proofs.YtipkniadbkndfaaGreatDoor.ev,V.rep,D.rep,wG]
def zvk (d:Option Tmp)(n:Nat):Bool:=match d with|some t=>xA t n|none=>U
theorem R.put {C bs s a w w'}(h:R C bs s a w)(hf:Fr zg w w')(d)(hd:zvk d C.n=U){v u}(hv:V.rep (Own C.A0 bs) w' bs s.H v u):R C bs (s.put d v) (a.put d u) w':=by have m:=h.mem.ext hf;have e:=h.fr.trans<|hf.mono λ_ _ x=>x.elim;cases d with
 |none=>exact⟨m.own,m.len,m.blk,λt x b=>⟨(h.tmp t x b).1,V.zwr hf x _ (h.tmp t x b).2⟩,h.defers,h.size,e,h.new,λp c=>⟨(h.gh p c).1,V.zwr hf p.1 _ (h.gh p c).2⟩⟩|some d=>
  have g:d<a.tmps.size:=by rw[h.size];simpa[zvk]using hd
  refine⟨m.own,m.len,m.blk,λt x b=>?_,h.defers,by simpa[vn]using h.size,e,h.new,λp c=>⟨(h.gh p c).1,V.zwr hf p.1 _ (h.gh p c).2⟩⟩;simp only[St.put,zbn]at b;simp only[vn,zdb _ _ _ _ _ g];split at b<;>rename_i f;·cases b;rw[if_pos f];exact⟨by rw[f,<-h.size];grind,hv⟩
  ·rw[if_neg f];exact⟨(h.tmp t x b).1,V.zwr hf x _ (h.tmp t x b).2⟩
structure TriL (P:Program)(C:Ctx)(ops:Array Oper)(rest:List Oper)(Q:Exit->St->Prop)(s:St):Prop where run:∀bs a w,R C bs s a w->wpList P ops (QR C Q) rest a w
theorem TriL.nil {P C ops Q s}(h:Q .normal s):TriL P C ops [] Q s:=⟨λb _ _ a=>wpList_nil<|.inl ⟨b,s,h,a⟩⟩
theorem Oper.zv9 {P o a w}{K}{next}{Q}(h:zfE P K<|(execOp a.eval o).run P w)(hn:∀u w',K u w'->next (a.put o.dst u) w'):o.wp P a w next Q:=by unfold vo;generalize(execOp a.eval o).run P w=r at*;cases r with
 |ok x w'=>
  cases x<;>simp only[zfE,va]at h|-;case value u=>simp_all
  case skip=>simp_all
  case enter f args=>exact h.mono λe b⟨u,d,c⟩=>by simp_all|halt x w'=>grind[zfE]
theorem TriL.op {P C ops o rest Q s v}(hg:o.guard=Y)(hd:zvk o.dst C.n=U)(hv:OpV P o (ev s.T) s.H v)(k:TriL P C ops rest Q<|s.put o.dst v):TriL P C ops (o::rest) Q s:=by
 refine⟨λc a w b=>?_⟩;refine wpList_plain hg λK e=>?_;refine Oper.zv9 (hv.run C.A0 c w a.eval b.mem (λx _ y f=>b.ev f) (λ_=>rfl) λ_=>rfl) λu h⟨g,d⟩=>?_;exact e _ _<|k.run c _ _<|b.put g o.dst hd d
theorem Tri.region {P C Q s id l}(h:TriL P C l.toArray l Q s):Tri P C (.region id l.toArray M) Q s:=⟨λc a w b=>wp_region_lit<|h.run c a w b⟩
theorem Tri.cond {P C Q s c x y t}(hc:ev s.T c=O (.d<|.val<|.bool t))(ht:t=U->Tri P C x Q s)(hf:t=M->Tri P C y Q s):Tri P C (.cond c x y) Q s:=by
 refine⟨λf a w b=>?_⟩;have e:a.eval c=.bool t:=by have:=b.ev hc;grind[V.rep,D.rep]
 exact wp_cond_split e (λh=>(ht h).run f a w b) λh=>(hf h).run f a w b
theorem R.weaken {C bs s a w}(h:R C bs s a w){T}(hT:∀t v,look t T=O v->look t s.T=O v):R C bs ⟨T,s.H⟩ a w:=⟨h.own,h.len,h.blk,λt v b=>h.tmp t v<|hT t v b,h.defers,h.size,h.fr,h.new,h.gh⟩
def Sub:List (Nat×V)->List (Nat×V)->Prop|[],_=>True|(t,v)::r,T=>look t T=O v/\Sub r T
theorem Sub.look {L T}(h:Sub L T):∀t v,look t L=O v->look t T=O v:=by induction L with|nil=>grind[Go.Proofs.YtipkniadbkndfaaGreatDoor.look]|cons p L ih=>grind[Sub,zbn]
def St.le (s t:St):Prop:=s.H=t.H/\Sub t.T s.T
theorem R.le {C bs s t a w}(h:R C bs s a w)(hl:s.le t):R C bs t a w:=by obtain⟨T,H⟩:=t;obtain⟨rfl,b⟩:=hl;exact h.weaken b.look
theorem Tri.le {P C Q s t c}(hl:s.le t)(h:Tri P C c Q t):Tri P C c Q s:=⟨λd a w b=>h.run d a w<|b.le hl⟩
theorem Tri.loopP {P C Q s c}(N)(I:Nat->St->Prop)(h0:I 0 s)(h:∀i s,i<=N->I i s->Tri P C c (zxi (λs'=>i<N/\I (i+1) s') Q) s):Tri P C (.loop c) Q s:=by
 refine⟨λf a w j=>?_⟩;refine wp_loop_rounds (N+1) ?_;have o:∀m i f s a w,i+m=N->I i s->R C f s a w->Code.rounds P c (QR C Q) (m+1) a w:=by
  intro m;induction m with
  |zero=>
   intro i f s a w p l j;refine xU ?_<|(h i s (by omega) l).run f a w j;rintro e n q(⟨d,s',g,b⟩|⟨rfl,k⟩)
   ·cases e<;>simp only[zxi]at g|-;case normal=>omega
    all_goals exact .inl ⟨d,s',g,b⟩
   ·exact .inr ⟨rfl,k⟩|succ m ih=>
   intro i f s a w p l j;refine xU ?_<|(h i s (by omega) l).run f a w j;rintro e n q(⟨d,s',g,b⟩|⟨rfl,k⟩)
   ·cases e<;>simp only[zxi,Exit.then]at g|-;case normal=>grind
    all_goals exact .inl ⟨d,s',g,b⟩
   ·exact .inr ⟨rfl,k⟩
 grind
end
section
variable[zuV][Drw]
def zan (P:Program)(t:TypeId):Option<|Option Nat:=match P.underlying t with|none=>Y|some d=>if d.isRow then(P.info? t).map λi=>O i.size else O Y
def D.shape:D->Option Nat|.agg cs=>O cs.length|.val<|.agg vs=>O vs.size|_=>Y
theorem D.zwP {A}{w}{d:D}{v}{n}(h:d.rep A w v)(hs:d.shape=O n):∃vs:Array Value,v=.agg vs/\vs.size=n:=by cases d with
 |agg cs=>obtain⟨vs,rfl,a⟩:=h;simp only[D.shape]at hs;exact⟨vs,rfl,by have:=D.zva a;simp_all⟩|val x=>
  subst h;cases v<;>simp[D.shape]at hs;simp_all|_=>grind[D.shape]
theorem D.zvf {A}{w}{d:D}{v}(h:d.rep A w v)(hs:d.shape=Y):v.cells=#[v]:=by cases d with
 |agg cs=>grind[D.shape]|val x=>subst h;cases v<;>first|rfl|grind[D.shape]
 |tup cs=>obtain⟨g,rfl,_⟩:=h;rfl|sl k xs=>obtain⟨a,c,rfl,_⟩:=h;rfl|ref x=>obtain⟨b,e,u,rfl,_⟩:=h;rfl|fn f fs cs=>obtain⟨g,j,rfl,_⟩:=h;rfl|mp ks ds=>obtain⟨b,l,i,rfl,_⟩:=h;rfl|err=>obtain⟨t,u,rfl⟩:=h;rfl|osl k xs=>obtain⟨a,c,rfl,_⟩:=h;rfl
theorem zcC {P}{A}{w}{t}{k}(ht:zan P t=O k){b off}{d:D}{u}(hd:d.rep A w u)(hk:d.shape=k)(hc:zdr w b off u):(vS t<|.pointer<|O ⟨b,off,Y⟩).run P w=.ok u w:=by unfold zan at ht;cases e:P.underlying t with
 |none=>simp_all|some ty=>
  simp only[e]at ht;by_cases a:ty.isRow=U;·rw[if_pos a]at ht;cases g:P.info? t with|none=>simp_all|some i=>
    simp only[g,yQ,yo]at ht;subst ht;obtain⟨h,rfl,m⟩:=D.zwP hd hk;exact run_loadAt_mid w b off t h.toList ty (λj v n=>by
     have:=hc j<|by grind[xX]
     grind[xX]) e a<|by simp_all
  ·rw[if_neg a]at ht;simp only[yo]at ht;subst ht;have l:=D.zvf hd hk;have f:=hc 0 (by simp_all);rw[l]at f;simp only[uv]at f;have c:(isAgg t).run P w=.ok M w:=by unfold isAgg;rw[xr,run_underlying e w];cases ty<;>simp_all
   simp[vS,wj,loadVar,c,f]
mutual inductive Frz (H:List Blk):V->D->Prop|d(x:D):Frz H (.d x) x|vec{i n:Nat}{t:TypeId}{k:Nat}{xs:List D}:H[i]?=O (.vec t k xs)->n=xs.length->Frz H (.vec i n) (.sl k xs)|sub{i n lo hi:Nat}{t:TypeId}{k:Nat}{xs:List D}:H[i]?=O (.vec t k xs)->n=xs.length->Frz H (.sub i n lo hi) (.sl k<|(xs.drop lo).take<|hi-lo)|arr{i off n:Nat}{t:TypeId}{k:Nat}{xs:List D}:H[i]?=O (.arr t k xs)->off+n<=xs.length->Frz H (.arr i off n) (.sl k<|(xs.drop off).take n)|agg{cs:List V}{ds:List D}:Frzs H cs ds->Frz H (.agg cs) (.agg ds)|tup{cs:List V}{ds:List D}:Frzs H cs ds->Frz H (.tup cs) (.tup ds)|fn{f:Fn}{a b:List V}{x y:List D}:Frzs H a x->Frzs H b y->Frz H (.fn f a b) (.fn f x y)|loc{i:Nat}{t:TypeId}{cs:List V}{ds:List D}:H[i]?=O (.box t cs)->Frzs H cs ds->Frz H (.loc i 0) (.ref<|.agg ds)|loc1{i:Nat}{t:TypeId}{c:V}{d:D}:H[i]?=O (.box t [c])->Frz H c d->d.shape=Y->Frz H (.loc i 0) (.ref d)|mp{i:Nat}{bo:List Nat}{ks:List Value}{ds:List D}{cl:Nat}:H[i]?=O (.mp bo ks ds cl)->wfM bo cl->Frz H (.mp i) (.mp ks ds)inductive Frzs (H:List Blk):List V->List D->Prop|nil:Frzs H [] []|cons{x:V}{d:D}{xs:List V}{ds:List D}:Frz H x d->Frzs H xs ds->Frzs H (x::xs) (d::ds)
end
theorem D.zvO {A A' w k b}(hA:∀c,c<w.heap.size->A' c->A c):∀(xs)(cs)(off),D.flat A w k xs cs->(∀j v,cs[j]?=O v->w.cell? ⟨b,off+j,Y⟩=O v)->D.row A' w b k xs off
 |[],_,_,_,_=>by grind[D.row]|x::xs,cs,off,h,e=>by
  obtain⟨u,a,rfl,f,d,g⟩:=h;refine⟨⟨u,D.zvU (Fr.refl zg w) (λ_ x=>x.elim) hA x u d,λj l=>?_,f⟩,D.zvO hA xs a (off+k) g λj v i=>?_⟩;·grind
  ·have:=e (k+j) v<|by grind
   grind
theorem D.zxh {A w b k}:∀(n)(xs)(off),D.row A w b k xs off->D.row A w b k (xs.drop n) (off+n*k)
 |0,xs,off,h=>by simp_all|n+1,[],off,h=>by grind[D.row]|n+1,x::xs,off,h=>by
  have:=D.zxh n xs (off+k) h.2;grind
theorem D.zwY {A w b k}:∀(n)(xs)(off),D.row A w b k xs off->D.row A w b k (xs.take n) off|0,_,_,_=>by grind[D.row]|n+1,[],_,_=>by simp_all|n+1,x::xs,off,h=>by exact⟨h.1,D.zwY n xs (off+k) h.2⟩
theorem zab {w:World}{b}{c}{t}{fr}(h:w.heap[b]?=O (.cells c t fr))(j):w.cell? ⟨b,j,Y⟩=c[j]?:=by simp[World.cell?,h]
mutual
theorem Frz.rep {A0:Nat->Prop}{bs:List<|Option Nat}{H:List Blk}{w:World}(m:Mem A0 bs H w):∀{x:V}{d:D},Frz H x d->∀(v:Value),V.rep (Own A0 bs) w bs H x v->D.rep A0 w d v
 |_,_,.d x,v,hv=>by simp only[V.rep]at hv;exact D.zvU (Fr.refl zg w) (λ_ x=>x.elim) (λ_ _ h=>.inl h) x v hv|_,_,.vec (t:=t) (k:=k) (xs:=xs) hi hn,v,hv=>by
  simp only[V.rep,hi]at hv;obtain⟨cells,h1,h2,h3⟩:=hv.2 hn;have hl:=D.zwa h3;simp only[D.rep];rcases h1.2 with⟨rfl,hn0⟩|⟨g,cap,cur,rfl,_,hg,hcap,hcm,hcs,htake⟩;·exact⟨Y,0,by rw[<-hn,hn0],by omega,.inl<|yY<|by omega⟩
  ·refine⟨O ⟨g,0,Y⟩,cap,by rw[<-hn],by omega,.inr ⟨g,0,rfl,λh=>m.own.not g ?_ h,(yn.1 hg).1,D.zvO (λ_ _ h=>.inl h) xs cells 0 h3 λj u hu=>?_⟩⟩;·have:=yC h2;simpa[xI]using this
   ·have:=h1.cells (g:=g) rfl j u hu;rwa[vT]at this|_,_,.sub (i:=i) (n:=n) (lo:=lo) (hi:=hh) (t:=t) (k:=k) (xs:=xs) hi hn,v,hv=>by
  simp only[V.rep,hi]at hv;obtain⟨hdr,cells,h1,h2,h3,hlo,hhi,ad,cap,rfl,hcap,hne⟩:=hv.2 hn;have hlen:((xs.drop lo).take<|hh-lo).length=hh-lo:=by rw[ui,ub];omega
  simp only[D.rep];refine⟨ad,cap,by rw[hlen],by rw[hlen];exact hcap,?_⟩;by_cases hlt:lo<hh
  ·obtain⟨b,hb,rfl⟩:=hne hlt;rcases h1.2 with⟨rfl,hn0⟩|⟨g,cp,cur,rfl,_,hg,hcp,hcm,hcs,htake⟩;·simp[xI]at hb
   ·obtain rfl:g=b:=by simpa[xI]using hb
    refine .inr ⟨g,lo*k,rfl,λh=>m.own.not g (by have:=yC h2;simpa[xI]using this) h,(yn.1 hg).1,D.zwY _ _ _ ?_⟩;have h0:=D.zvO (b:=g) (λ_ _ h=>.inl h) xs cells 0 h3 λj u hu=>by
     have:=h1.cells (g:=g) rfl j u hu;rwa[vT]at this
    have:=D.zxh lo xs 0 h0;simpa using this
  ·refine .inl<|yY<|by rw[hlen];omega|_,_,.arr (i:=i) (off:=off) (t:=t) (k:=k) (xs:=xs) hi hn,v,hv=>by
  simp only[V.rep,hi]at hv;obtain⟨b,hb,ho,rfl⟩:=hv;have hblk:=m.blk i _ hi;simp only[Blk.rep]at hblk;obtain⟨b',vs,hb',hh,hf⟩:=hblk;obtain rfl:b=b':=by rw[hb]at hb';simpa using hb'
  simp only[D.rep];refine⟨_,_,by rw[ui,ub,vh<|by omega],by rw[ui,ub,vh<|by omega];omega,.inr ⟨b,_,rfl,λh=>m.own.not b (yC hb) h,(yn.1 hh).1,?_⟩⟩;refine D.zwY _ _ _ ?_;have h0:=D.zvO (b:=b) (A':=A0) (λ_ _ h=>.inl h) xs vs.toList 0 hf λj u hu=>by rw[zab hh];simpa using hu
  have:=D.zxh off xs 0 h0;simpa using this|_,_,.agg h,v,hv=>by simp only[V.rep]at hv;obtain⟨vs,rfl,hr⟩:=hv;simp only[D.rep];exact⟨vs,rfl,Frzs.reps m h _ hr⟩|_,_,.tup h,v,hv=>by simp only[V.rep]at hv;obtain⟨vs,rfl,hr⟩:=hv;simp only[D.rep];exact⟨vs,rfl,Frzs.reps m h _ hr⟩|_,_,.fn h1 h2,v,hv=>by simp only[V.rep]at hv;obtain⟨vs,us,rfl,r1,r2⟩:=hv;simp only[D.rep];exact⟨vs,us,rfl,Frzs.reps m h1 _ r1,Frzs.reps m h2 _ r2⟩|_,_,.loc (i:=i) hi h,v,hv=>by
  simp only[V.rep,hi]at hv;obtain⟨b,hb,rfl⟩:=hv;have hblk:=m.blk i _ hi;simp only[Blk.rep]at hblk;obtain⟨b',vs,hb',hh,hf⟩:=hblk;obtain rfl:b=b':=by rw[hb]at hb';simpa using hb'
  simp only[D.rep];refine⟨b,0,.agg vs,rfl,λh=>m.own.not b (yC hb) h,(yn.1 hh).1,⟨vs,rfl,Frzs.reps m h _ hf⟩,λj hj=>?_⟩;rw[zab hh];simp[xX]|_,_,.mp (i:=i) hi hwf,v,hv=>by
  simp only[V.rep,hi]at hv;obtain⟨b,hb,rfl⟩:=hv;have hblk:=m.blk i _ hi;simp only[Blk.rep]at hblk;obtain⟨b',es,hb',hh,hbo,hk,hf⟩:=hblk;obtain rfl:b=b':=by rw[hb]at hb';simpa using hb'
  simp only[D.rep];exact⟨b,es,_,rfl,λh=>m.own.not b (yC hb) h,(yn.1 hh).1,hh,hk,by rw[hbo];exact hwf,D.zvs (Fr.refl zg w) (λ_ x=>x.elim) (λ_ _ h=>.inl h) _ _ hf⟩|_,_,.loc1 (i:=i) hi h hs,v,hv=>by
  simp only[V.rep,hi]at hv;obtain⟨b,hb,rfl⟩:=hv;have hblk:=m.blk i _ hi;simp only[Blk.rep]at hblk;obtain⟨b',vs,hb',hh,hf⟩:=hblk;obtain rfl:b=b':=by rw[hb]at hb';simpa using hb'
  simp only[V.reps]at hf;obtain⟨u,us,e,hu,e2⟩:=hf;subst e2;have hr:=Frz.rep m h u hu;simp only[D.rep];refine⟨b,0,u,rfl,λh=>m.own.not b (yC hb) h,(yn.1 hh).1,hr,λj hj=>?_⟩;have hcu:=D.zvf hr hs;rw[hcu]at hj|-;have hj0:j=0:=by simp at hj;omega
  subst hj0;rw[zab hh,<-y0,e];simp
theorem Frzs.reps {A0 bs H w}(m:Mem A0 bs H w):∀{xs:List V}{ds:List D},Frzs H xs ds->∀(vs:List Value),V.reps (Own A0 bs) w bs H xs vs->D.reps A0 w ds vs|_,_,.nil,vs,hv=>by simpa only[V.reps,D.reps]using hv|_,_,.cons h hs,vs,hv=>by simp only[V.reps]at hv;obtain⟨v,vs',rfl,r1,r2⟩:=hv;simp only[D.reps];exact⟨v,vs',rfl,Frz.rep m h v r1,Frzs.reps m hs vs' r2⟩
end
structure Pure (P:Program)(f:FuncId)(xs:List D)(y:D):Prop where run:∀(A:Nat->Prop)(w:World)(vs:Array Value),(∀b,A b->b<w.heap.size)->zdv A w->D.reps A w xs vs.toList->Calls P f vs w λe w'=>∃u,e=.returned u/\Fr zg w w'/\D.rep A w' y u
def params:Nat->List D->List (Nat×V)|_,[]=>[]|i,x::xs=>(i,.d x)::params (i+1) xs
theorem zd4 {A w bs H}:∀(xs)(i)(vs)(tmps:Array Value),D.reps A w xs vs->(∀j,j<vs.length->tmps.getD (i+j) undef=vs.getD j undef)->i+vs.length<=tmps.size->∀t v,look t (params i xs)=O v->t<tmps.size/\V.rep A w bs H v (tmps.getD t undef)
 |[],_,_,_,_,_,_,t,v,h=>by grind[params,look]|x::xs,i,vs,tmps,f,b,d,t,v,h=>by
  obtain⟨u,a,rfl,k,g⟩:=f;simp only[params,zbn]at h;simp only[yW]at d;split at h<;>rename_i e
  ·have:=b 0<|by simp
   grind[V.rep]
  ·exact zd4 xs (i+1) a tmps g (λj c=>by
    have:=b (j+1)<|by simp_all
    grind) (by omega) t v h
def zyX (P:Program)(s:St):List ResultVar->List D->Prop|[],ds=>ds=[]|.tmp t::rs,ds=>∃d ds' v,ds=d::ds'/\look t s.T=O v/\Frz s.H v d/\zyX P s rs ds'|.cell t ty::rs,ds=>∃d ds' i T cs,ds=d::ds'/\look t s.T=O (.loc i 0)/\s.H[i]?=O (.box T cs)/\zan P ty=O d.shape/\Frz s.H (.loc i 0) (.ref d)/\zyX P s rs ds'
def zfk:List D->D|[d]=>d|ds=>.tup ds
def retQ (P:Program)(rs:Array ResultVar)(y:D)(e:Exit)(s:St):Prop:=(e=.ret\/e=.normal)/\∃ds,zfk ds=y/\zyX P s rs.toList ds
def zeC (a:Array Value):ResultVar->Sem Value|.tmp t=>pure<|a.getD t undef|.cell b t=>do loadVar t<|<-asAddr<|a.getD b undef
theorem zca (fn a):results fn a=(do let vs<-fn.results.mapM<|zeC a;pure<|if h:vs.size=1 then vs[0]else .tuple vs):=by congr 1
theorem zj8 {P}{C}{bs}{s}{a}{w}(hR:R C bs s a w):∀(rs)(ds),zyX P s rs ds->∃vs:List Value,(rs.mapM<|zeC a.tmps).run P w=.ok vs w/\D.reps C.A0 w ds vs
 |[],ds,h=>by subst h;exact⟨[],by simp,by simp[D.reps]⟩|.tmp t::rs,ds,h=>by
  obtain⟨d,c,v,rfl,l,k,j⟩:=h;obtain⟨vs,x,m⟩:=zj8 hR rs c j;refine⟨a.tmps.getD t undef::vs,?_,?_⟩;·grind[xr,zeC,xt,xi]
  ·exact⟨_,_,rfl,Frz.rep hR.mem k _ (hR.tmp t v l).2,m⟩|.cell t I::rs,ds,h=>by
  obtain⟨p,c,i,T,F,rfl,l,k,j,q,r⟩:=h;obtain⟨vs,x,m⟩:=zj8 hR rs c r;have g:=(hR.tmp t _ l).2;simp only[V.rep,k]at g;obtain⟨b,H,g⟩:=g;have f:=Frz.rep hR.mem q (a.tmps.getD t undef) (by grind[V.rep]);obtain⟨G,o,u,e,z,y,B,E⟩:=f;rw[g]at e;have n:=zcC (P:=P) (A:=C.A0) (d:=p) j B rfl E;simp only[vS,wj]at n;refine⟨u::vs,?_,?_⟩;·grind[zeC,xr,asAddr,xt,xi]
  ·simp only[D.reps];grind
theorem Pure.zxN {P f fn c xs y}(hf:P.funcs[f]?=O fn)(hb:fn.body=O c)(hn:xs.length<=fn.ntmps)(h:∀A w,Tri P ⟨A,zg,w,fn.ntmps,λ_ _=>False,[],0,[]⟩ c (retQ P fn.results y) ⟨params 0 xs,[]⟩):Pure P f xs y:=by
 refine⟨λA w g xf Q C=>?_⟩;have E:=D.zva C;refine calls_of_wp hf hb<|xU ?_<|(h A w).run [] _ w ?_
 ·rintro e F l(⟨xa,xc,⟨L,z,I,m⟩,r⟩|⟨_,hE⟩);case inr=>simp_all
  obtain⟨q,G,a⟩:=zj8 r fn.results.toList z m;have K:=D.zva a;have k:=r.fr;have i:∃u,(results fn F.tmps).run P l=.ok u l/\D.rep A l y u:=by
   have N:(fn.results.mapM<|zeC F.tmps).run P l=.ok q.toArray l:=by rw[<-vp (xs:=fn.results),List.mapM_toArray];simp_all
   rw[zca];simp only[xr,N,xi,xt];match z,q,a,K with
   |[d],[u],a,_=>
    obtain⟨_,_,e,h1,_⟩:=a;grind[zfk]|[],[],a,_=>grind[zfk,D.rep]|X::xe::z,S::T::q,a,_=>
    simp only[zfk]at I;subst I;have xd:¬(S::T::q).toArray.size=1:=by simp
    simp only[D.rep];simp_all
  obtain⟨u,n,o⟩:=i;rcases L with rfl|rfl;·exact⟨r.defers,u,n,u,rfl,k,o⟩
  ·exact⟨r.defers,u,n,u,rfl,k,o⟩
 ·have B:(g++xu (fn.ntmps-g.size) undef).size=fn.ntmps:=by simp_all
  refine⟨⟨by simp,by simp,by simp,xf,Q.fr (Fr.refl zg w) (λ_ x=>x.elim) λb _ hb=>hb.elim id λh=>by grind⟩,rfl,by simp,λt v xb=>?_,rfl,B,Fr.refl _ _,by simp,λp W=>by cases W⟩;have:=zd4 (A:=Own A []) (w:=w) (bs:=[]) (H:=[]) xs 0 g.toList (g++xu (fn.ntmps-g.size) undef) (D.zvs (Fr.refl zg w) (λ_ x=>x.elim) (λb _ hb=>hb.elim id λh=>by grind) xs _ C) (λj hj=>by
    have s:j<g.size:=by simp_all
    simp[wu,s]) (by simp_all) t v xb;grind
end
section
variable[zuV][Drw]
abbrev D.int (n:Int):D:=.val<|.int .i64 n
abbrev D.bool (b:Bool):D:=.val<|.bool b
abbrev D.str (l:List UInt8):D:=.val<|.string ⟨l.toArray⟩
theorem zsF (l:List UInt8):(⟨l.toArray⟩:ByteArray).size=l.length:=rfl
theorem zjh (a b:List UInt8):((⟨a.toArray⟩:ByteArray).toList==(⟨b.toArray⟩:ByteArray).toList)=Z (a=b):=by rw[ByteArray.toList_eq,ByteArray.toList_eq,we];simp
section
variable{P:Program}{o:Oper}{e:Operand->Option V}{H:List Blk}
theorem OpV.of_same {v}(h:∀(A0)(bs)(w)(f),Mem A0 bs H w->(∀x∈o.op.operands,∀y,e x=O y->V.rep (Own A0 bs) w bs H y (f x))->∃u,(execOp f o).run P w=.ok (.value u) w/\V.rep (Own A0 bs) w bs H v u):OpV P o e H v:=by refine⟨λA0 bs w f m b _ _=>?_⟩;obtain⟨u,c,a⟩:=h A0 bs w f m b;rw[c];exact⟨Fr.refl _ _,a⟩
theorem zt {A w bs H x u}:V.rep A w bs H (.d<|.val x) u↔u=x:=by grind[V.rep,D.rep]
theorem OpV.move {x v}(ho:o.op=.move x)(hx:e x=O v):OpV P o e H v:=.of_same λ_ _ w f _ a=>⟨f x,by simp[execOp,ho],a x (by grind[xk]) v hx⟩
theorem OpV.assign {x v}(ho:o.op=.assign x)(hx:e x=O v):OpV P o e H v:=.of_same λ_ _ w f _ a=>⟨f x,by simp[execOp,ho],a x (by grind[xk]) v hx⟩
theorem OpV.pick {c x y b v}(ho:o.op=.pick c x y)(hc:e c=O (.d<|.bool b))(hx:b=U->e x=O v)(hy:b=M->e y=O v):OpV P o e H v:=.of_same λ_ _ w f _ a=>by
  have g:=zt.1<|a c (by grind[xk]) _ hc;cases b;·exact⟨f y,by simp[execOp,ho,g,asBool],a y (by grind[xk]) v<|hy rfl⟩
  ·exact⟨f x,by simp[execOp,ho,g,asBool],a x (by grind[xk]) v<|hx rfl⟩
theorem OpV.zv4 {op}{t u x y k a b r}(ho:o.op=.binOp op t x y u)(hx:e x=O (.d<|.val<|.int k a))(hy:e y=O (.d<|.val<|.int k b))(hr:∀w,(binOp op t (.int k a)<|.int k b).run P w=.ok r w):OpV P o e H<|.d<|.val r:=.of_same λ_ _ w f _ hf=>by
  have h:=zt.1<|hf x (by grind[xk]) _ hx;have h2:=zt.1<|hf y (by grind[xk]) _ hy;refine⟨r,?_,zt.2 rfl⟩;grind[execOp,eqGuard_at_int,xr,xt,xi]
theorem OpV.add {t u x y k a b}(ho:o.op=.binOp .add t x y u)(hx:e x=O (.d<|.val<|.int k a))(hy:e y=O (.d<|.val<|.int k b)):OpV P o e H<|.d<|.val<|.int k<|k.wrap<|a+b:=.zv4 ho hx hy λw=>by simp[binOp,Op.intArith]
theorem OpV.sub {t u x y k a b}(ho:o.op=.binOp .sub t x y u)(hx:e x=O (.d<|.val<|.int k a))(hy:e y=O (.d<|.val<|.int k b)):OpV P o e H<|.d<|.val<|.int k<|k.wrap<|a-b:=.zv4 ho hx hy λw=>by simp[binOp,Op.intArith]
theorem OpV.mul {t u x y k a b}(ho:o.op=.binOp .mul t x y u)(hx:e x=O (.d<|.val<|.int k a))(hy:e y=O (.d<|.val<|.int k b)):OpV P o e H<|.d<|.val<|.int k<|k.wrap<|a*b:=.zv4 ho hx hy λw=>by simp[binOp,Op.intArith]
theorem OpV.lss {t u x y k a b}(ho:o.op=.binOp .lss t x y u)(hx:e x=O (.d<|.val<|.int k a))(hy:e y=O (.d<|.val<|.int k b)):OpV P o e H<|.d<|.bool<|Z<|a<b:=.zv4 ho hx hy λw=>by simp[binOp,tj]
theorem OpV.leq {t u x y k a b}(ho:o.op=.binOp .leq t x y u)(hx:e x=O (.d<|.val<|.int k a))(hy:e y=O (.d<|.val<|.int k b)):OpV P o e H<|.d<|.bool<|Z<|a<=b:=.zv4 ho hx hy λw=>by simp[binOp,tj]
theorem OpV.gtr {t u x y k a b}(ho:o.op=.binOp .gtr t x y u)(hx:e x=O (.d<|.val<|.int k a))(hy:e y=O (.d<|.val<|.int k b)):OpV P o e H<|.d<|.bool<|Z<|b<a:=.zv4 ho hx hy λw=>by simp[binOp,tj]
theorem OpV.geq {t u x y k a b}(ho:o.op=.binOp .geq t x y u)(hx:e x=O (.d<|.val<|.int k a))(hy:e y=O (.d<|.val<|.int k b)):OpV P o e H<|.d<|.bool<|Z<|b<=a:=.zv4 ho hx hy λw=>by simp[binOp,tj]
theorem OpV.eql {t u x y k a b}(ho:o.op=.binOp .eql t x y u)(hx:e x=O (.d<|.val<|.int k a))(hy:e y=O (.d<|.val<|.int k b)):OpV P o e H<|.d<|.bool<|a==b:=.zv4 ho hx hy λw=>by simp[binOp,tj]
theorem OpV.neq {t u x y k a b}(ho:o.op=.binOp .neq t x y u)(hx:e x=O (.d<|.val<|.int k a))(hy:e y=O (.d<|.val<|.int k b)):OpV P o e H<|.d<|.bool<|a !=b:=.zv4 ho hx hy λw=>by simp[binOp,tj]
theorem OpV.not {t x b}(ho:o.op=.unOp .not t x)(hx:e x=O (.d<|.bool b)):OpV P o e H<|.d<|.bool !b:=.of_same λ_ _ w f _ c=>by have a:=zt.1<|c x (by grind[xk]) _ hx;exact⟨.bool !b,by simp[execOp,ho,a,Op.unary],zt.2 rfl⟩
theorem OpV.neg {t x k a}(ho:o.op=.unOp .neg t x)(hx:e x=O (.d<|.val<|.int k a)):OpV P o e H<|.d<|.val<|.int k<|k.wrap<|-a:=.of_same λ_ _ w f _ c=>by have b:=zt.1<|c x (by grind[xk]) _ hx;exact⟨.int k<|k.wrap<|-a,by simp[execOp,ho,b,Op.unary,Op.intArith],zt.2 rfl⟩
theorem OpV.zyK {t u x y}{a b}(ho:o.op=.binOp .eql t x y u)(hx:e x=O (.d<|.str a))(hy:e y=O (.d<|.str b)):OpV P o e H<|.d<|.bool<|Z<|a=b:=.of_same λ_ _ w f _ c=>by have h:=zt.1<|c x (by grind[xk]) _ hx;have g:=zt.1<|c y (by grind[xk]) _ hy;exact⟨.bool<|Z<|a=b,by simp only[execOp,ho,h,g,eqGuard_at_string,binOp,Op.stringOp,xr,xt,xi,zjh],zt.2 rfl⟩
theorem OpV.zzJ {t u x y}{a b}(ho:o.op=.binOp .neq t x y u)(hx:e x=O (.d<|.str a))(hy:e y=O (.d<|.str b)):OpV P o e H<|.d<|.bool<|!decide (a=b):=.of_same λ_ _ w f _ c=>by have h:=zt.1<|c x (by grind[xk]) _ hx;have g:=zt.1<|c y (by grind[xk]) _ hy;exact⟨.bool<|!decide (a=b),by simp only[execOp,ho,h,g,eqGuard_at_string,binOp,Op.stringOp,xr,xt,xi,zjh],zt.2 rfl⟩
theorem OpV.box {t x d}(ho:o.op=.box t x)(hx:e x=O (.d d)):OpV P o e H<|.d<|.ref d:=by
 refine⟨λn p w f m k _ _=>?_⟩;have g:=k x (by grind[xk]) _ hx;have c:(execOp f o).run P w=.ok (.value<|.pointer<|O ⟨w.heap.size,0,Y⟩) (w.alloc<|.cells (f x).cells t):=by simp only[execOp,ho];rfl
 rw[c];have a:Fr zg w<|w.alloc<|.cells (f x).cells t:=⟨rfl,rfl,rfl,by simp,λb i _=>xE w _ b i,λ_=>yk _⟩;refine⟨a,?_⟩;refine⟨w.heap.size,0,f x,rfl,λh=>?_,by simp,D.zwr a g,λj l=>?_⟩
 ·rcases h with h|h;·exact absurd (m.own.zu5 _ h)<|by omega
  ·exact absurd (m.own.lt _ h)<|by omega
 simp_all
structure Fld (P:Program)(t:TypeId)(i:Nat)(x y:D):Prop where out:∃fs f n cs,P.underlying t=O (.struct fs)/\fs[i]?=O f/\zan P f.type=O n/\x=.agg cs/\(P.info? f.type).any λi=>i.size !=0=U/\y.shape=n/\match n with|none=>cs[f.offset]?=O y|some k=>f.offset+k<=cs.length/\y=.agg ((cs.drop f.offset).take k)
theorem zhx {w b off vs}(hc:zdr w b off<|.agg vs)(o k)(hk:o+k<=vs.size):zdr w b (off+o)<|.agg (vs.toList.drop o|>.take k).toArray:=by
 intro j a;simp only[xX]at a;have:=hc (o+j) (by grind[xX]);simp only[xX]at this|-;grind
theorem OpV.fieldAddr {t x i a b}(ho:o.op=.fieldAddr t x i)(hx:e x=O (.d<|.ref a))(hf:Fld P t i a b):OpV P o e H<|.d<|.ref b:=.of_same λA0 bs w f _ hw=>by have h1:=hw x (by grind[xk]) _ hx;obtain⟨bl,off,u,hp,hn,hlt,hu,hc⟩:=h1;obtain⟨fs,fl,n,cs,hut,hfi,hsh,rfl,hne,hys,hpart⟩:=hf.out;obtain⟨vs,rfl,hr⟩:=hu;have hl:=D.zva hr;simp only[yE]at hl;cases hinf:P.info? fl.type with|none=>grind|some inf=>
   have hsz:inf.size≠0:=by grind
   refine⟨.pointer<|O ⟨bl,off+fl.offset,Y⟩,?_,?_⟩;·simp[execOp,ho,hp,Instr.fieldAt,run_underlying hut,hfi,wj,fieldPlace,sizeOf,typeInfo,hinf,hsz,wq]
   ·simp only[V.rep,D.rep];cases n with
    |none=>
     simp only at hpart;obtain⟨v,hv,hrv⟩:=D.zvF hr fl.offset b hpart;refine⟨bl,off+fl.offset,v,rfl,hn,hlt,hrv,λj hj=>?_⟩;rw[D.zvf hrv hys]at hj|-;have hj0:j=0:=by grind
     subst hj0;have hlt':=(yd.1 hv).1;have:=hc fl.offset (by grind[xX]);simp only[xX]at this;grind|some k=>simp only at hpart;obtain⟨hk,rfl⟩:=hpart;refine⟨bl,off+fl.offset,.agg (vs.toList.drop fl.offset|>.take k).toArray,rfl,hn,hlt,?_,zhx hc fl.offset k<|by omega⟩;simp only[D.rep];exact⟨_,rfl,D.zwd k<|D.zwc fl.offset hr⟩
theorem OpV.load {t x d k}(ho:o.op=.load t x)(hx:e x=O (.d<|.ref d))(ht:zan P t=O k)(hk:d.shape=k):OpV P o e H<|.d d:=.of_same λn l w f _ g=>by have h:=g x (by grind[xk]) _ hx;obtain⟨p,c,u,b,m,i,j,a⟩:=h;refine⟨u,?_,by grind[V.rep]⟩;simp only[execOp,ho,b,xr,zcC ht j hk a,xi,xt]
theorem OpV.len_sl {x k xs t el}(ho:o.op=.call {callee:=.builtin .len,args:=#[x],argTypes:=#[t]})(ht:P.underlying t=O (.slice el))(hx:e x=O (.d<|.sl k xs)):OpV P o e H<|.d<|.int xs.length:=.of_same λi j w f _ c=>by have h:=c x (by grind[xk,xW]) _ hx;obtain⟨a,g,b,_⟩:=h;refine⟨.int .i64 xs.length,?_,zt.2 rfl⟩;simp[execOp,ho,resolve,invoke,builtin,tf,b,run_underlying ht,goInt]
theorem OpV.zw7 {x}{l}{t}(ho:o.op=.call {callee:=.builtin .len,args:=#[x],argTypes:=#[t]})(ht:P.underlying t=O .string)(hx:e x=O (.d<|.str l)):OpV P o e H<|.d<|.int l.length:=.of_same λc g w f _ a=>by have b:=zt.1<|a x (by grind[xk,xW]) _ hx;refine⟨.int .i64 l.length,?_,zt.2 rfl⟩;simp[execOp,ho,resolve,invoke,builtin,tf,b,run_underlying ht,goInt,zsF]
theorem OpV.indexAddr {α:Type}{t el x i}{k}{l:List α}{enc}{a}{n:Nat}(ho:o.op=.indexAddr t x i)(hx:e x=O (.d<|.sl k<|l.map enc))(hi:e i=O (.d<|.int a))(ht:P.underlying t=O (.slice el))(hs:(P.info? el).map (·.size)=O k)(ha:a=(n:Int))(hn):OpV P o e H<|.d<|.ref<|enc l[n]:=.of_same λG B w f _ q=>by
  have v:=q x (by grind[xk]) _ hx;have A:=zt.1<|q i (by grind[xk]) _ hi;obtain⟨F,y,s,_,p⟩:=v;subst ha;rcases p with p|⟨b,j,rfl,z,r,c⟩;·grind
  ·obtain⟨u,C,E,_⟩:=D.zzH c n (by grind);cases h:P.info? el with
   |none=>grind|some inf=>
    have m:inf.size=k:=by grind
    refine⟨.pointer<|O ⟨b,j+n*k,Y⟩,?_,?_⟩
    ·have g:(0:Int)<=n/\(n:Int)<(l.map enc).length:=by grind
     simp only[execOp,ho,s,A,Instr.indexAt,asIntOf,xr,xt,xi,run_underlying ht];rw[if_pos g];simp[sizeOf,typeInfo,h,m,wq]
    ·simp only[V.rep,D.rep];grind
def zwA (P:Program)(t:TypeId)(i:Nat):Option<|Nat×Option Nat:=match P.underlying t with
 |some<|.struct fs=>match fs[i]? with
  |some f=>match zan P f.type with|some n=>if(P.info? f.type).any λi=>i.size !=0 then O (f.offset,n)else Y|none=>Y
  |none=>Y
 |_=>Y
def zlS (cs:List D)(off:Nat):Option Nat->Option D|none=>cs[off]?|some k=>if off+k<=cs.length then O<|.agg<|(cs.drop off).take k else Y
theorem Fld.of {P t i off n cs y}(h:zwA P t i=O (off,n))(hs:y.shape=n)(hp:zlS cs off n=O y):Fld P t i (.agg cs) y:=by
 unfold zwA at h;split at h
 ·rename_i b c;split at h
  ·rename_i f d;split at h
   ·rename_i m e;split at h<;>rename_i a;·simp only[yo,yh]at h;obtain⟨rfl,rfl⟩:=h;refine⟨⟨b,f,m,cs,c,d,e,rfl,a,hs,?_⟩⟩;cases m with
     |none=>exact hp|some k=>grind[zlS]
    grind
   grind
  grind
 grind
def evs (e:Operand->Option V):List Operand->Option (List D)|[]=>O []|x::xs=>match e x,evs e xs with|some<|.d d,O ds=>O<|d::ds|_,_=>Y
theorem zff {A w bs f}:∀{xs}{ds},evs e xs=O ds->(∀x∈xs,∀y,e x=O y->V.rep A w bs H y (f x))->D.reps A w ds (xs.map f)
 |[],ds,h,_=>by grind[evs,D.reps]|x::xs,ds,h,a=>by
  simp only[evs]at h;split at h
  ·rename_i d c g i;simp only[yo]at h;subst h;refine⟨_,_,rfl,?_,zff i λy b=>a y<|by simp[b]⟩;have:=a x (by simp) _ g;grind[V.rep]
  grind
def zu0 (P:Program)(f:FuncId):Bool:=P.funcs[f]?.any fun fn=>! fn.name== "runtime.NumGoroutine" &&fn.body.isSome
theorem za7 {P f}(h:zu0 P f=U)(args w):(callFunc f args).run P w=.ok (.enter f args) w:=by unfold zu0 at h;cases a:P.funcs[f]? with|none=>grind|some fn=>simp only[a,Option.any_some,yc,yz,uo]at h;cases b:fn.body with|none=>grind|some c=>simp[callFunc,a,h.1,b]
theorem OpV.call {f args tys xs y}(ho:o.op=.call {callee:=.value<|.func f,args:=args,argTypes:=tys})(hc:zu0 P f=U)(ha:evs e args.toList=O xs)(hp:Pure P f xs y):OpV P o e H<|.d y:=by
 refine⟨λi bs w g m l _ s=>?_⟩;have c:(execOp g o).run P w=.ok (.enter f<|args.map g) w:=by grind[execOp,resolve,xY,invoke,za7]
 rw[c];have a:D.reps (Own i bs) w xs (args.map g).toList:=by have:=zff (A:=Own i bs) (w:=w) (bs:=bs) (f:=g) ha λx r=>l x (by grind[xk,xW]);simp_all
 refine(hp.run (Own i bs) w (args.map g) (λb h=>?_) m.own.glob a).mono λp q⟨u,k,j,n⟩=>⟨u,k,j,by grind[V.rep]⟩;rcases h with h|h;·exact m.own.zu5 b h
 ·exact m.own.lt b h
end
def D.one:D->Bool|.agg _|.tup _=>M|.val<|.agg _|.val<|.tuple _=>M|_=>U
def D.ones:D->Bool|.agg cs=>cs.all D.one|d=>d.one
theorem D.one_cell {A}{w}{d:D}{v}(h:d.rep A w v)(h1:d.one=U):v.oneCell'=true:=by cases d with
 |agg cs=>grind[D.one]|tup cs=>grind[D.one]|val x=>subst h;cases v<;>first|rfl|grind[D.one]
 |sl k xs=>obtain⟨a,c,rfl,_⟩:=h;rfl|ref x=>obtain⟨b,e,u,rfl,_⟩:=h;rfl|fn f fs cs=>obtain⟨i,j,rfl,_⟩:=h;rfl|mp ks ds=>obtain⟨b,l,g,rfl,_⟩:=h;rfl|err=>obtain⟨t,u,rfl⟩:=h;rfl|osl k xs=>obtain⟨a,c,rfl,_⟩:=h;rfl
theorem D.zwU {A}{w}{d:D}{v}(h:d.rep A w v)(h1:d.ones=U):∀c∈v.cells.toList,c.oneCell'=true:=by cases d with
 |agg cs=>
  obtain⟨j,rfl,b⟩:=h;simp only[D.ones]at h1;have f:∀(cs:List D)(a:List Value),(∀x∈cs,x.one=U)->D.reps A w cs a->∀c∈a,c.oneCell'=true:=by
   intro cs;induction cs with|nil=>grind[D.reps]|cons x xs ih=>
    intro a h1 b c e;obtain⟨u,g,rfl,k,l⟩:=b;rcases yF.1 e with rfl|e;·grind[D.one_cell]
    grind
  grind[xX]|_=>
  simp only[D.ones]at h1;have m:=D.one_cell h h1;have i:=D.zvf h<|by first|rfl|(subst h;cases v<;>first|rfl|grind[D.one])
  grind
def zcX (P:Program)(t:TypeId)(k:Option Nat):Bool:=match P.info? t with
 |some i=>i.size==k.getD 1&&match i.zero with|some z=>z.cells.size==i.size|none=>M
 |none=>M
theorem D.zxX {A}{w}{d:D}{v}{k}(h:d.rep A w v)(hk:d.shape=k):v.cells.size=k.getD 1:=by cases k with|none=>grind[D.zvf]|some n=>obtain⟨b,rfl,a⟩:=D.zwP h hk;grind[xX]
theorem TriL.zwn {P}{C}{ops}{o1 o2}{rest}{Q}{s}{d}{t}{x}{r:Tmp}{k}(hg1:o1.guard=Y)(hg2:o2.guard=Y)(ho1:o1.op=.alloc t)(hd1:o1.dst=O r)(ho2:o2.op=.store t (.tmp r) x)(hd2:o2.dst=Y)(hn:xA r C.n=U)(hx:ev s.T x=O (.d d))(hne:x≠.tmp r)(hk:d.shape=k)(hone:d.ones=U)(hz:zcX P t k=U)(kk:TriL P C ops rest Q<|s.put (O r)<|.d<|.ref d):TriL P C ops (o1::o2::rest) Q s:=by
 refine⟨λbs a w hR=>?_⟩;have hlt:r<a.tmps.size:=by rw[hR.size];simp_all
 unfold zcX at hz;cases hi:P.info? t with
 |none=>grind|some i=>simp only[hi,yc,beq_iff_eq]at hz;obtain⟨hsz,hz⟩:=hz;cases hzz:i.zero with
  |none=>grind|some z=>
   simp only[hzz,beq_iff_eq]at hz;have hx1:=hR.ev hx;simp only[V.rep]at hx1;have hcs:(a.eval x).cells.size=i.size:=by grind[D.zxX]
   refine wpList_plain hg1 λK hK=>?_;have hrun1:(execOp a.eval o1).run P w=.ok (.value<|.pointer<|O ⟨w.heap.size,0,Y⟩) (w.alloc<|.cells z.cells t):=by simp only[execOp,ho1,Instr.alloc,zeroValue,typeInfo,program,newVar,newRow,newObj,xr,Sem.run,hi,hzz,xt,xi];rfl
   unfold vo;rw[hrun1];simp only[va,hd1];refine hK _ _ ?_;refine wpList_plain hg2 λK2 hK2=>?_;have hev:(a.put (O r)<|.pointer<|O ⟨w.heap.size,0,Y⟩).eval x=a.eval x:=by cases x with
    |tmp t'=>
     have:t'≠r:=λh=>hne<|by rw[h]
     simp only[wG,vn,zdb _ _ _ _ _ hlt,this,if_false]|_=>rfl
   have hev':(a.put (O r)<|.pointer<|O ⟨w.heap.size,0,Y⟩).eval (.tmp r)=.pointer (O ⟨w.heap.size,0,Y⟩):=by simp only[wG,vn,zdb _ _ _ _ _ hlt,if_true]
   have hnew:=heap_alloc_new w<|.cells z.cells t;have hst:=run_storeCells_from (P:=P) w.heap.size t (a.eval x).cells.toList 0 z.cells (w.alloc<|.cells z.cells t) hnew (by grind) λv hv=>D.zwU hx1 hone v hv;have hrun2:(execOp (a.put (O r)<|.pointer<|O ⟨w.heap.size,0,Y⟩).eval o2).run P (w.alloc<|.cells z.cells t)=.ok .skip ((w.alloc<|.cells z.cells t).setRow w.heap.size (a.eval x).cells):=by simp only[execOp,ho2,hev,hev',Instr.storeAt,wj,storeVar,sizeOf,typeInfo,program,xr,Sem.run,hi,xt,xi,hcs,ne_eq,not_true_eq_false,if_false];simp_all
   unfold vo;rw[hrun2];simp only[va,hd2];refine hK2 _ _<|kk.run bs _ _ ?_;have hfr:Fr zg w<|(w.alloc<|.cells z.cells t).setRow w.heap.size (a.eval x).cells:=⟨rfl,rfl,rfl,by simp,λb hb _=>by grind[setRow_other,xE],λ_=>yk _⟩;have:=hR.put hfr (O r) (by simpa[zvk]using hn) (v:=.d<|.ref d) (u:=.pointer<|O ⟨w.heap.size,0,Y⟩)<|by
    simp only[V.rep,D.rep];refine⟨w.heap.size,0,a.eval x,rfl,λh=>?_,by simp,D.zwr hfr hx1,λj hj=>?_⟩
    ·rcases h with h|h;·exact absurd (hR.own.zu5 _ h)<|by omega
     ·exact absurd (hR.own.lt _ h)<|by omega
    ·have h2:=setRow_heap (w.alloc<|.cells z.cells t) w.heap.size z.cells (a.eval x).cells t _ hnew;rw[zab h2];simp
   exact this
end
section
variable[zuV][Drw]
def putT (T:List<|Nat×V)(d:Option Tmp)(v:V):List<|Nat×V:=match d with|some d=>(d,v)::T|none=>T
theorem St.put_eq (s:St)(d)(v):s.put d v=⟨putT s.T d v,s.H⟩:=by cases d<;>rfl
abbrev V.undef:V:=.d<|.val Go.undef
def zjt:Value->Option Bool|.bool b=>O b|_=>Y
theorem R.yielded {C}{bs}{s}{a}{w}(h:R C bs s a w){ops:Array Oper}{j g:Nat}{x}(hj:ops[j]?.bind (·.dst)=O g)(hx:look g s.T=O (.d<|.val x)):Go.yielded ops a.tmps j=zjt x:=by
 obtain⟨b,c⟩:=h.tmp g _ hx;rw[<-h.size]at b;have c:=zt.1 c;have e:a.tmps[g]?=O x:=by simp_all
 simp only[Go.yielded,zjt];grind
def zbS (P:Program)(t:TypeId):Option Value:=match P.info? t with|some i=>i.zero|none=>Y
def zf7 (o:Oper):Bool:=match o.op with|.alloc _=>U|_=>M
def zaq (o:Oper):Bool:=match o.op with|.alloc _|.store _ _ _=>U|_=>M
theorem zrj {o}(h:zaq o=M):zf7 o=false:=by grind[zaq,zf7]
abbrev Ev:=Nat×TypeId×Option D
def V.zvi:V->List V|.d<|.agg ds=>ds.map .d|.d<|.val<|.agg vs=>vs.toList.map λv=>.d<|.val v|.agg cs=>cs|v=>[v]
def Wk (n:Nat)(T T1:List<|Nat×V):Prop:=∀t v,look t T1=O v->look t T=O v\/v=.junk/\t<n
theorem Wk.refl (n T):Wk n T T:=λ_ _ h=>.inl h
theorem Wk.trans {n T T1 T2}(h:Wk n T T1)(k:Wk n T1 T2):Wk n T T2:=λt v a=>(k t v a).elim (h t v) .inr
def zu6 (P:Program)(n:Nat)(ops:Array Oper)(H:List Blk):List Oper->List Ev->List (Nat×V)->(List Ev->List (Nat×V)->Prop)->Prop|[],al,T,K=>∃T1,Wk n T T1/\K al T1|o::rest,al,T,K=>∃T1,Wk n T T1/\zvk o.dst n=U/\match o.guard with|none=>(zaq o=M/\∃v,OpV P o (ev T1) H v/\zu6 P n ops H rest al (putT T1 o.dst v) K)\/(∃t r,o.op=.alloc t/\o.dst=O r/\(zbS P t).isSome=U/\zu6 P n ops H rest (al++[(r,t,Y)]) (putT T1 (O r) .junk) K)\/∃t r y d k,o.op=.store t (.tmp r) y/\o.dst=Y/\ev T1 y=O (.d d)/\d.ones=U/\d.shape=k/\zcX P t k=U/\zu6 P n ops H rest (al++[(r,t,O d)]) T1 K|some (j,want)=>zaq o=M/\∃g,ops[j]?.bind (·.dst)=O g/\(look g T1=O .undef/\zu6 P n ops H rest al (putT T1 o.dst .undef) K\/look g T1=O (.d<|.bool !want)/\zu6 P n ops H rest al (putT T1 o.dst .undef) K\/look g T1=O (.d<|.bool want)/\∃v,OpV P o (ev T1) H v/\zu6 P n ops H rest al (putT T1 o.dst v) K)
theorem zu6.wk {P n ops H}{K}{l al T T'}(hw:Wk n T T')(h:zu6 P n ops H l al T' K):zu6 P n ops H l al T K:=by cases l with|nil=>obtain⟨b,c,a⟩:=h;exact⟨b,hw.trans c,a⟩|cons o rest=>obtain⟨b,c,a⟩:=h;exact⟨b,hw.trans c,a⟩
theorem zu6.append {P n ops H}{K}{l2}:∀(l1)(al)(T),zu6 P n ops H l1 al T (λal1 T1=>zu6 P n ops H l2 al1 T1 K)->zu6 P n ops H (l1++l2) al T K|[],al,T,h=>by obtain⟨T1,c,a⟩:=h;grind[zu6.wk]|o::l1,al,T,h=>by obtain⟨T1,j,l,h⟩:=h;refine⟨T1,j,l,?_⟩;cases i:o.guard with
  |none=>
   rw[i]at h;rcases h with⟨e,v,c,a⟩|⟨t,r,e,c,a,b⟩|⟨t,r,y,d,k,e,c,a,b,f,p,m⟩;·exact .inl ⟨e,v,c,zu6.append l1 _ _ a⟩
   ·exact .inr<|.inl ⟨t,r,e,c,a,zu6.append l1 _ _ b⟩
   ·exact .inr<|.inr ⟨t,r,y,d,k,e,c,a,b,f,p,zu6.append l1 _ _ m⟩|some jw=>
   rw[i]at h;obtain⟨e,g,c,h⟩:=h;refine⟨e,g,c,?_⟩;rcases h with⟨a,b⟩|⟨a,b⟩|⟨a,v,b,f⟩;·exact .inl ⟨a,zu6.append l1 _ _ b⟩
   ·exact .inr<|.inl ⟨a,zu6.append l1 _ _ b⟩
   ·exact .inr<|.inr ⟨a,v,b,zu6.append l1 _ _ f⟩
theorem zu6.mono {P n ops H}{K K'}(hK:∀al T,K al T->K' al T):∀(l)(al)(T),zu6 P n ops H l al T K->zu6 P n ops H l al T K'|[],al,T,h=>by obtain⟨i,b,a⟩:=h;exact⟨i,b,hK _ _ a⟩|o::f,al,T,h=>by obtain⟨i,q,s,h⟩:=h;refine⟨i,q,s,?_⟩;cases m:o.guard with
  |none=>
   rw[m]at h;rcases h with⟨e,v,b,a⟩|⟨t,r,e,b,a,c⟩|⟨t,r,y,d,k,e,b,a,c,j,u,p⟩;·exact .inl ⟨e,v,b,zu6.mono hK f _ _ a⟩
   ·exact .inr<|.inl ⟨t,r,e,b,a,zu6.mono hK f _ _ c⟩
   ·exact .inr<|.inr ⟨t,r,y,d,k,e,b,a,c,j,u,zu6.mono hK f _ _ p⟩|some jw=>
   rw[m]at h;obtain⟨e,g,b,h⟩:=h;refine⟨e,g,b,?_⟩;rcases h with⟨a,c⟩|⟨a,c⟩|⟨a,v,c,j⟩;·exact .inl ⟨a,zu6.mono hK f _ _ c⟩
   ·exact .inr<|.inl ⟨a,zu6.mono hK f _ _ c⟩
   ·exact .inr<|.inr ⟨a,v,c,zu6.mono hK f _ _ j⟩
def evOf (o:Oper)(v:V):List Ev:=match o.op,o.dst,v with|.alloc t,O r,_=>[(r,t,Y)]|.store t (.tmp r) _,_,.d d=>[(r,t,O d)]|_,_,_=>[]
def zwf (l:List<|Oper×V):List Ev:=l.flatMap λp=>evOf p.1 p.2
def zhD (o:Oper):List<|Nat×TypeId:=match o.op,o.dst with|.alloc t,O r=>[(r,t)]|_,_=>[]
def zj2 (l:List Oper):List<|Nat×TypeId:=l.flatMap zhD
def zwD (es:List Ev):List<|Nat×TypeId:=es.filterMap λe=>match e with|(r,t,Y)=>O (r,t)|_=>Y
def stored:List Ev->Nat->Option D|[],_=>Y|(q,_,O d)::es,r=>if q=r then O d else stored es r|(_,_,Y)::es,r=>stored es r
theorem zfH {o v}(h:zaq o=M):evOf o v=[]:=by unfold evOf;grind[zaq]
def dsts (l:List Oper):List Nat:=l.filterMap (·.dst)
theorem zeO (T d v t):look t (putT T d v)=if d=O t then O v else look t T:=by cases d with|none=>simp[putT]|some d=>simp only[putT,zbn];grind
def zxx:List Nat->List (Nat×V)->List (Nat×V)|[],T=>T|d::ds,T=>(d,.junk)::zxx ds T
theorem zlP (T t):∀(ds),look t (zxx ds T)=if t∈ds then O .junk else look t T|[]=>by simp[zxx]|d::ds=>by simp only[zxx,zbn,zlP T t ds];grind
theorem Wk.ev {n T T1}(h:Wk n T T1){x y}(hx:Go.Proofs.YtipkniadbkndfaaGreatDoor.ev T1 x=O y):Go.Proofs.YtipkniadbkndfaaGreatDoor.ev T x=O y\/y=.junk:=by cases x with|tmp t=>exact(h t y hx).imp id (·.1)|const v=>exact .inl hx|func f=>exact .inl hx|global g=>exact .inl hx
theorem OpV.wk {P o n T T1 H v}(hw:Wk n T T1)(hv:OpV P o (Go.Proofs.YtipkniadbkndfaaGreatDoor.ev T1) H v):OpV P o (Go.Proofs.YtipkniadbkndfaaGreatDoor.ev T) H v:=⟨λb c w f m g e d=>hv.run b c w f m (λx i y a=>by
  rcases hw.ev a with h|h;·grind
  grind[V.rep]) e d⟩
theorem Wk.putT {n T T1}(h:Wk n T T1)(d v):Wk n (Go.Proofs.YtipkniadbkndfaaGreatDoor.putT T d v)<|Go.Proofs.YtipkniadbkndfaaGreatDoor.putT T1 d v:=by
 intro t x a;rw[zeO]at a|-;split at a<;>rename_i e;·grind
 ·rw[if_neg e];exact h t x a
theorem zh9 {o l t}(h:t∉dsts (o::l)):t∉dsts l/\o.dst≠O t:=by simp only[dsts,ta]at h;cases a:o.dst with|none=>rw[a]at h;exact⟨h,by simp⟩|some d=>rw[a]at h;simp only[yF,not_or]at h;exact⟨h.2,by grind⟩
theorem zu6.zxQ {P n ops H}{K}:∀(l)(al)(T),zu6 P n ops H l al T K->zu6 P n ops H l al T λal1 T2=>(((∀o∈l,zaq o=M)->al1=al)/\∀t,t∉dsts l->look t T2=look t T)/\∃T1,Wk n T2 T1/\K al1 T1
 |[],al,T,h=>by obtain⟨T1,h1,h2⟩:=h;exact⟨T,Wk.refl _ _,⟨λ_=>rfl,λt _=>rfl⟩,T1,h1,h2⟩|o::l,al,T,h=>by
  unfold zu6 at h|-;obtain⟨T1,hw,hd,h⟩:=h;refine⟨T,Wk.refl _ _,hd,?_⟩;have post:∀(al0:List Ev)(v:V),(zaq o=M->al0=al)->∀al1 T2,((((∀o∈l,zaq o=M)->al1=al0)/\∀t,t∉dsts l->look t T2=look t (Go.Proofs.YtipkniadbkndfaaGreatDoor.putT T o.dst v))/\∃T1,Wk n T2 T1/\K al1 T1)->(((∀p∈o::l,zaq p=M)->al1=al)/\∀t,t∉dsts (o::l)->look t T2=look t T)/\∃T1,Wk n T2 T1/\K al1 T1:=by intro al0 v hal al1 T2⟨⟨h1,h3⟩,h4⟩;refine⟨⟨λhs=>by grind,λt hnd=>?_⟩,h4⟩;obtain⟨hnl,hne⟩:=zh9 hnd;rw[h3 t hnl,zeO,if_neg hne]
  cases hg:o.guard with
  |none=>
   rw[hg]at h;rcases h with⟨h0,v,h1,h2⟩|⟨t,r,h0,h1,h2,h3⟩|⟨t,r,y,d,k,h0,h1,h2,h3,h4,h5,h6⟩;·exact .inl ⟨h0,v,h1.wk hw,zu6.mono (post al v λ_=>rfl) l _ _<|zu6.zxQ l _ _<|zu6.wk (hw.putT _ _) h2⟩
   ·refine .inr<|.inl ⟨t,r,h0,h1,h2,zu6.mono ?_ l _ _<|zu6.zxQ l _ _<|zu6.wk (hw.putT _ _) h3⟩;have:=post (al++[(r,t,Y)]) .junk λh=>by simp[zaq,h0]at h
    rwa[h1]at this
   ·have hy:ev T y=O (.d d):=by
     rcases hw.ev h2 with h|h;·exact h
     ·cases h
    refine .inr<|.inr ⟨t,r,y,d,k,h0,h1,hy,h3,h4,h5,zu6.mono ?_ l _ _<|zu6.zxQ l _ _<|zu6.wk hw h6⟩;have:=post (al++[(r,t,O d)]) .junk λh=>by simp[zaq,h0]at h
    rwa[h1]at this|some jw=>
   rw[hg]at h;obtain⟨h0,g,h1,h⟩:=h;refine⟨h0,g,h1,?_⟩;have hlk:∀x,look g T1=O (.d<|.val x)->look g T=O (.d<|.val x):=λx hx=>by
    rcases hw g _ hx with h|⟨h,_⟩;·exact h
    ·cases h
   rcases h with⟨h2,h3⟩|⟨h2,h3⟩|⟨h2,v,h3,h4⟩;·exact .inl ⟨hlk _ h2,zu6.mono (post al .undef λ_=>rfl) l _ _<|zu6.zxQ l _ _<|zu6.wk (hw.putT _ _) h3⟩
   ·exact .inr<|.inl ⟨hlk _ h2,zu6.mono (post al .undef λ_=>rfl) l _ _<|zu6.zxQ l _ _<|zu6.wk (hw.putT _ _) h3⟩
   ·exact .inr<|.inr ⟨hlk _ h2,v,h3.wk hw,zu6.mono (post al v λ_=>rfl) l _ _<|zu6.zxQ l _ _<|zu6.wk (hw.putT _ _) h4⟩
def zfp (ops:Array Oper)(n:Nat)(g:Nat)(want:Bool):List Oper->List Nat->Bool
 |[],_=>U|o::l,us=>!zaq o&&zvk o.dst n&&(match o.guard with
   |some (j,w)=>match ops[j]?.bind (·.dst)with
    |some g'=>g'==g&&w==want||us.contains g'|none=>M
   |none=>M)&&! o.dst==O g&&zfp ops n g want l (match o.dst with|some d=>d::us|none=>us)
theorem zu6.skips {P n ops H}{K}{g want al}:∀(l)(us)(T),zfp ops n g want l us=U->look g T=O (.d<|.bool !want)->(∀u∈us,look u T=O .undef)->(∀T',(∀t,t∉dsts l->look t T'=look t T)->K al T')->zu6 P n ops H l al T K
 |[],us,T,_,_,_,c=>⟨T,Wk.refl _ _,c T λ_ _=>rfl⟩|o::l,us,T,h,j,r,c=>by
  simp only[zfp,yc,yz,uo]at h;obtain⟨⟨⟨⟨s,q⟩,v⟩,k⟩,p⟩:=h;refine⟨T,Wk.refl _ _,q,?_⟩;have i:zu6 P n ops H l al (putT T o.dst .undef) K:=by
   refine zu6.skips l _ _ p ?_ ?_ ?_;·rw[zeO,if_neg k];exact j
   ·intro u m;rw[zeO];grind
   ·intro T' b;refine c T' λt f=>?_;obtain⟨e,a⟩:=zh9 f;rw[b t e,zeO,if_neg a]
  grind
structure TriQ (P:Program)(n:Nat)(ops:Array Oper)(H:List Blk)(l:List Oper)(al:List Ev)(T:List<|Nat×V)(K:List Ev->List (Nat×V)->Prop):Prop where run:zu6 P n ops H l al T K
section
variable{P:Program}{n:Nat}{ops:Array Oper}{H:List Blk}{o:Oper}{rest:List Oper}{al:List Ev}{T:List<|Nat×V}{K:List Ev->List (Nat×V)->Prop}
theorem TriQ.nil (h:K al T):TriQ P n ops H [] al T K:=⟨T,Wk.refl _ _,h⟩
theorem TriQ.op {d:Nat}{v}(hg:o.guard=Y)(hd:o.dst=O d)(hn:xA d n=U)(ha:zaq o=M)(hv:OpV P o (ev T) H v)(k:TriQ P n ops H rest al ((d,v)::T) K):TriQ P n ops H (o::rest) al T K:=by constructor;unfold zu6;rw[hg];exact⟨T,Wk.refl _ _,by rw[hd];exact hn,.inl ⟨ha,v,hv,by rw[hd];exact k.run⟩⟩
theorem TriQ.alloc {t}{r:Nat}(hg:o.guard=Y)(ho:o.op=.alloc t)(hd:o.dst=O r)(hn:xA r n=U)(hz:(zbS P t).isSome=U)(k:TriQ P n ops H rest (al++[(r,t,Y)]) ((r,.junk)::T) K):TriQ P n ops H (o::rest) al T K:=by constructor;unfold zu6;rw[hg];exact⟨T,Wk.refl _ _,by rw[hd];exact hn,.inr<|.inl ⟨t,r,ho,hd,hz,k.run⟩⟩
theorem TriQ.store {t}{r:Nat}{y}{d}{k}(hg:o.guard=Y)(ho:o.op=.store t (.tmp r) y)(hd:o.dst=Y)(hy:ev T y=O (.d d))(h1:d.ones=U)(hk:d.shape=k)(hz:zcX P t k=U)(kk:TriQ P n ops H rest (al++[(r,t,O d)]) T K):TriQ P n ops H (o::rest) al T K:=by constructor;unfold zu6;rw[hg];exact⟨T,Wk.refl _ _,by rw[hd];rfl,.inr<|.inr ⟨t,r,y,d,k,ho,hd,hy,h1,hk,hz,kk.run⟩⟩
theorem TriQ.gop {d:Nat}{v}{j g:Nat}{want}(hg:o.guard=O (j,want))(hj:ops[j]?.bind (·.dst)=O g)(hb:look g T=O (.d<|.bool want))(hd:o.dst=O d)(hn:xA d n=U)(ha:zaq o=M)(hv:OpV P o (ev T) H v)(k:TriQ P n ops H rest al ((d,v)::T) K):TriQ P n ops H (o::rest) al T K:=by constructor;unfold zu6;rw[hg];exact⟨T,Wk.refl _ _,by rw[hd];exact hn,ha,g,hj,.inr<|.inr ⟨hb,v,hv,by rw[hd];exact k.run⟩⟩
end
def Runs (ops:Array Oper)(o:Oper)(T:List<|Nat×V):Prop:=o.guard=Y\/∃j want g,o.guard=O (j,want)/\ops[j]?.bind (·.dst)=O g/\look g T=O (.d<|.bool want)
theorem TriQ.zyR {P n ops H l p rest al T}{K}(m){want b b2:Bool}{g r d:Nat}{x y}(hl:l.drop m=p::rest)(hp:p.op=.pick (.tmp g) x y)(hxy:if want then x=.tmp r/\y=.const (.bool M)else x=.const (.bool U)/\y=.tmp r)(hb:look g T=O (.d<|.bool b))(hs:zfp ops n g want (l.take m) []=U)(hrun:Runs ops p T)(hgp:∀j w g',p.guard=O (j,w)->ops[j]?.bind (·.dst)=O g'->g'∉dsts (l.take m))(hd:p.dst=O d)(hn:xA d n=U)(h1:b=want->TriQ P n ops H (l.take m) al ((g,.d<|.bool want)::T) λ_ T'=>look r T'=O (.d<|.bool b2))(h2:TriQ P n ops H rest al ((d,.d<|.bool<|if want then b&&b2 else b||b2)::zxx (dsts<|l.take m) T) K):TriQ P n ops H l al T K:=by
 have hl':l=l.take m++p::rest:=by grind[List.take_append_drop]
 have hpa:zaq p=false:=by grind[zaq]
 have hnog:∀(ll:List Oper)us,zfp ops n g want ll us=U->g∉dsts ll/\∀o∈ll,zaq o=M:=by
  intro ll;induction ll with|nil=>grind[dsts]|cons o ll ih=>
   intro us h;simp only[zfp,yc,yz,uo]at h;obtain⟨⟨⟨⟨h0,_⟩,_⟩,h3⟩,h4⟩:=h;have:=ih _ h4;refine⟨?_,?_⟩;·simp only[dsts,ta];cases ho:o.dst with
    |none=>exact this.1|some d'=>
     intro hc;rcases yF.1 hc with rfl|hc;·exact h3 ho
     ·exact this.1 hc
   grind
 obtain⟨hgn,haln⟩:=hnog _ _ hs;have fin:∀(T1:List<|Nat×V)(c:Bool),(∀t v,look t T=O v->t∉dsts (l.take m)->look t T1=O v)->(∀t∈dsts<|l.take m,t<n)->OpV P p (ev T1) H (.d<|.bool c)->c=(if want then b&&b2 else b||b2)->zu6 P n ops H (p::rest) al T1 K:=by
  intro T1 c hk hdn hv hc;subst hc;unfold zu6;refine⟨T1,Wk.refl _ _,by rw[hd];exact hn,?_⟩;have wk:Wk n (putT T1 p.dst<|.d<|.bool<|if want then b&&b2 else b||b2)<|(d,.d<|.bool<|if want then b&&b2 else b||b2)::zxx (dsts<|l.take m) T:=by
   intro t v hv';rw[zbn]at hv';rw[hd,zeO];by_cases ht:t=d;·rw[if_pos ht]at hv';rw[if_pos<|by rw[ht]];exact .inl hv'
   ·rw[if_neg ht,zlP]at hv';rw[if_neg<|by simpa usingλh=>ht h.symm];split at hv'<;>rename_i hmem;·exact .inr ⟨by simpa using hv'.symm,hdn t hmem⟩
    ·exact .inl<|hk t v hv' hmem
  rcases hrun with hg0|⟨j,w,g',hg0,hj,hb0⟩;·rw[hg0];exact .inl ⟨hpa,_,hv,zu6.wk wk h2.run⟩
  ·rw[hg0];exact⟨hpa,g',hj,.inr<|.inr ⟨hk g' _ hb0<|hgp j w g' hg0 hj,_,hv,zu6.wk wk h2.run⟩⟩
 constructor;rw[hl'];refine zu6.append _ _ _ ?_;have hdn:∀(ll:List Oper)us,zfp ops n g want ll us=U->∀t∈dsts ll,t<n:=by
  intro ll;induction ll with
  |nil=>intro us _;simp[dsts]|cons o ll ih=>intro us h;simp only[zfp,yc,yz,uo]at h;obtain⟨⟨⟨⟨_,h1⟩,_⟩,_⟩,h4⟩:=h;have:=ih _ h4;simp only[dsts,ta];cases ho:o.dst with|none=>exact this|some d'=>
    intro t ht;rcases yF.1 ht with rfl|ht;·rw[ho]at h1;simpa[zvk]using h1
    ·exact this t ht
 by_cases hbw:b=want
 ·have hwk:Wk n T<|(g,.d<|.bool want)::T:=by
   intro t v hv;rw[zbn]at hv;split at hv<;>rename_i e;·cases hv;rw[e,<-hbw];exact .inl hb
   ·exact .inl hv
  have hsub:∀t,look t ((g,V.d<|.bool want)::T)=look t T:=λt=>by
   rw[zbn];split<;>rename_i e;·rw[e,hb,hbw]
   ·rfl
  refine zu6.wk hwk<|zu6.mono ?_ _ _ _<|zu6.zxQ _ _ _ (h1 hbw).run;rintro al1 T1⟨⟨hal,hkeep⟩,T2,hw2,hr2⟩;have hr:look r T1=O (.d<|.bool b2):=(hw2 r _ hr2).elim id (λh=>by cases h.1);have hal':al1=al:=hal haln;subst hal';refine fin T1 (if want then b&&b2 else b||b2) (λt v hv hnd=>by rw[hkeep t hnd,hsub];exact hv) (hdn _ _ hs) ?_ rfl;have hgl:look g T1=O (.d<|.bool b):=by rw[hkeep g hgn,hsub];exact hb
  cases want with|true=>obtain⟨rfl,rfl⟩:=hxy;subst hbw;exact OpV.pick hp hgl (λ_=>hr) λh=>by cases h|false=>obtain⟨rfl,rfl⟩:=hxy;subst hbw;exact OpV.pick hp hgl (λh=>by cases h) λ_=>hr
 ·have hbn:b=!want:=by revert hbw;cases b<;>cases want<;>simp
  refine zu6.skips _ [] T hs (by rw[hb,hbn]) (λu hu=>by cases hu) λT1 hk=>?_;refine fin T1 (if want then b&&b2 else b||b2) (λt v hv hnd=>by rw[hk t hnd];exact hv) (hdn _ _ hs) ?_ rfl;have hgl:look g T1=O (.d<|.bool b):=by rw[hk g hgn];exact hb
  cases want with|true=>obtain⟨rfl,rfl⟩:=hxy;subst hbn;exact OpV.pick hp hgl (λh=>by cases h) λ_=>rfl|false=>obtain⟨rfl,rfl⟩:=hxy;subst hbn;exact OpV.pick hp hgl (λ_=>rfl) λh=>by cases h
def YV (P:Program)(n:Nat)(ops:Array Oper)(H:List Blk)(o:Oper)(T:List<|Nat×V)(v:V):Prop:=zvk o.dst n=U/\(zaq o=M/\o.guard=Y/\OpV P o (ev T) H v\/o.guard=Y/\(∃t r,o.op=.alloc t/\o.dst=O r/\(zbS P t).isSome=U)/\v=.junk\/(zaq o=M/\∃j want g,o.guard=O (j,want)/\ops[j]?.bind (·.dst)=O g/\(look g T=O (.d<|.bool want)/\OpV P o (ev T) H v\/(look g T=O .undef\/look g T=O (.d<|.bool !want))/\v=.undef))\/o.guard=Y/\∃t r y d k,o.op=.store t (.tmp r) y/\o.dst=Y/\ev T y=O (.d d)/\d.ones=U/\d.shape=k/\zcX P t k=U/\v=.d d)
theorem OpV.congr {P o e e' H v}(h:∀x∈o.op.operands,e x=e' x)(hv:OpV P o e H v):OpV P o e' H v:=⟨λb c w f m d a g=>hv.run b c w f m (λx i y j=>d x i y<|by grind) a g⟩
theorem YV.congr {P}{n}{ops}{H}{o:Oper}{T T'}{v}(h:∀t∈o.looksAt ops,look t T=look t T')(hy:YV P n ops H o T v):YV P n ops H o T' v:=by
 have b:∀x∈o.op.operands,ev T x=ev T' x:=by intro x s;cases x with|tmp t=>exact h t<|by simp only[Oper.looksAt,yu,List.mem_filterMap];left;exact⟨.tmp t,by grind,rfl⟩|_=>rfl
 obtain⟨m,hy⟩:=hy;refine⟨m,?_⟩;rcases hy with⟨i,a,q⟩|⟨a,e,l⟩|⟨i,j,c,g,a,p,hy⟩|⟨a,t,r,y,d,k,u,e,l,w⟩;·exact .inl ⟨i,a,q.congr b⟩
 ·grind
 ·have f:=h g (by grind[Oper.looksAt]);refine .inr<|.inr<|.inl ⟨i,j,c,g,a,p,?_⟩;rw[<-f];rcases hy with⟨e,l⟩|e;·exact .inl ⟨e,l.congr b⟩
  grind
 grind[xk]
def TL (T:List<|Nat×V)(ps:List<|Oper×V)(p:Nat->Bool):Nat->List (Nat×V)|0=>T|m+1=>match ps[m]? with|some (o,v)=>if p m then putT (TL T ps p m) o.dst v else TL T ps p m|none=>TL T ps p m
theorem zek (T d v t):look t (putT T d v)=if d=O t then O v else look t T:=by cases d with|none=>simp[putT]|some d=>simp only[putT,zbn];grind
theorem zeF {T ps p p' t}(h:∀i o v,ps[i]?=O (o,v)->o.dst=O t->p i=p' i):∀m,look t (TL T ps p m)=look t (TL T ps p' m)|0=>rfl|m+1=>by have b:=zeF (T:=T) h m;simp only[TL];cases c:ps[m]? with
  |none=>exact b|some ov=>
   obtain⟨o,v⟩:=ov;simp only;by_cases a:o.dst=O t
   ·rw[h m o v c a];split;·rw[zek,zek,if_pos a,if_pos a]
    grind
   grind[zek]
theorem zfF {T ps p m}(h:∀i,m<=i->p i=M):∀k,TL T ps p (m+k)=TL T ps p m
 |0=>rfl|k+1=>by
  show TL T ps p (m+k+1)=_;simp only[TL,zfF h k];grind
theorem zu6.path {P n ops H}{K}{T0}:∀(l)(al)(T)(ps),(∀t,look t T=look t (TL T0 ps (λ_=>U) ps.length))->zu6 P n ops H l al T K->∃qs:List<|Oper×V,qs.map (·.1)=l/\(∀i o v,qs[i]?=O (o,v)->YV P n ops H o (TL T0 (ps++qs) (λk=>Z<|k<ps.length+i) (ps++qs).length) v)/\∃T',K (al++zwf qs) T'/\Wk n (TL T0 (ps++qs) (λ_=>U) (ps++qs).length) T'
 |[],al,T,ps,hT,h=>by
  obtain⟨T1,h1,h2⟩:=h;refine⟨[],rfl,by simp,T1,by grind[zwf],λt v hv=>?_⟩;have:=h1 t v hv;grind|o::l,al,T,ps,hT,h=>by
  have step:∀(al1:List Ev)(v:V),al1=al++evOf o v->YV P n ops H o T v->zu6 P n ops H l al1 (putT T o.dst v) K->∃qs:List<|Oper×V,qs.map (·.1)=o::l/\(∀i o v,qs[i]?=O (o,v)->YV P n ops H o (TL T0 (ps++qs) (λk=>Z<|k<ps.length+i) (ps++qs).length) v)/\∃T',K (al++zwf qs) T'/\Wk n (TL T0 (ps++qs) (λ_=>U) (ps++qs).length) T':=by
   intro al1 v hal hy hk;have hT':∀t,look t (putT T o.dst v)=look t (TL T0 (ps++[(o,v)]) (λ_=>U) (ps++[(o,v)]).length):=by
    intro t;have e1:∀m,m<=ps.length->TL T0 (ps++[(o,v)]) (λ_=>U) m=TL T0 ps (λ_=>U) m:=by
     intro m;induction m with|zero=>intro _;rfl|succ m ih=>grind[TL,vf]
    simp only[yT,yW,ul,ug,TL,List.getElem?_concat_length,if_true,e1 ps.length<|yk _];grind[zek]
   obtain⟨qs,hq1,hq2,T',hK,hq3⟩:=zu6.path l al1 _ (ps++[(o,v)]) hT' hk;refine⟨(o,v)::qs,by grind,?_,T',by grind[zwf],by grind⟩;intro i o' v' hi;cases i with
   |zero=>
    simp only[yS,yo,yh]at hi;obtain⟨rfl,rfl⟩:=hi;refine hy.congr λt _=>?_;rw[hT];have e2:TL T0 (ps++(o,v)::qs) (λk=>Z<|k<ps.length+0) (ps++(o,v)::qs).length=TL T0 (ps++(o,v)::qs) (λk=>Z<|k<ps.length+0) ps.length:=by have:=zfF (T:=T0) (ps:=ps++(o,v)::qs) (p:=λk=>Z<|k<ps.length+0) (m:=ps.length) (λi hi=>by simp;omega) ((o,v)::qs).length;simpa using this
    rw[e2];have e1:∀m,m<=ps.length->TL T0 (ps++(o,v)::qs) (λk=>Z<|k<ps.length+0) m=TL T0 ps (λ_=>U) m:=by
     intro m;induction m with
     |zero=>intro _;rfl|succ m ih=>intro hm;simp only[TL,yi<|show m<ps.length by omega,ih<|by omega,show m<ps.length+0 by omega,decide_true]
    rw[e1 ps.length<|yk _]|succ i=>have:=hq2 i o' v' (by simpa using hi);simpa[yM,Nat.add_assoc,Nat.add_comm 1 i]using this
  unfold zu6 at h;obtain⟨T1,hw,hd,h⟩:=h;cases hg:o.guard with
  |none=>
   rw[hg]at h;rcases h with⟨h0,v,hv,hk⟩|⟨t,r,h0,h1,h2,h3⟩|⟨t,r,y,d,k,h0,h1,h2,h3,h4,h5,h6⟩;·exact step al v (by rw[zfH h0];simp) ⟨hd,.inl ⟨h0,hg,hv.wk hw⟩⟩<|zu6.wk (hw.putT _ _) hk
   ·refine step (al++[(r,t,Y)]) .junk (by simp[evOf,h0,h1]) ⟨hd,.inr<|.inl ⟨hg,⟨t,r,h0,h1,h2⟩,rfl⟩⟩ ?_;rw[h1];exact zu6.wk (hw.putT _ _) h3
   ·have hy:ev T y=O (.d d):=by
     rcases hw.ev h2 with h|h;·exact h
     ·cases h
    refine step (al++[(r,t,O d)]) (.d d) (by simp[evOf,h0]) ⟨hd,.inr<|.inr<|.inr ⟨hg,t,r,y,d,k,h0,h1,hy,h3,h4,h5,rfl⟩⟩ ?_;rw[h1];exact zu6.wk hw h6|some jw=>
   obtain⟨j,want⟩:=jw;rw[hg]at h;obtain⟨h0,g,hj,h⟩:=h;have hlk:∀x,look g T1=O (.d<|.val x)->look g T=O (.d<|.val x):=λx hx=>by
    rcases hw g _ hx with h|⟨h,_⟩;·exact h
    ·cases h
   rcases h with⟨h2,h3⟩|⟨h2,h3⟩|⟨h2,v,h3,h4⟩;·exact step al .undef (by rw[zfH h0];simp) ⟨hd,.inr<|.inr<|.inl ⟨h0,j,want,g,hg,hj,.inr ⟨.inl<|hlk _ h2,rfl⟩⟩⟩<|zu6.wk (hw.putT _ _) h3
   ·exact step al .undef (by rw[zfH h0];simp) ⟨hd,.inr<|.inr<|.inl ⟨h0,j,want,g,hg,hj,.inr ⟨.inr<|hlk _ h2,rfl⟩⟩⟩<|zu6.wk (hw.putT _ _) h3
   ·exact step al v (by rw[zfH h0];simp) ⟨hd,.inr<|.inr<|.inl ⟨h0,j,want,g,hg,hj,.inl ⟨hlk _ h2,h3.wk hw⟩⟩⟩<|zu6.wk (hw.putT _ _) h4
def zpr (xd:List Nat)(o:Oper):Nat:=o.after.toList.foldl (λm e=>if wZ .any e then m|||2^e.on|||xd.getD e.on 0 else m) 0
def zy4:List Oper->List Nat->List Nat|[],xd=>xd|o::l,xd=>zy4 l<|xd++[zpr xd o]
def zrp (l:List Oper)(n:Nat)(L0:List Nat):Bool:=let xd:=zy4 l [];(xn l.length).all λj=>match l[j]? with|none=>M|some oj=>xd.getD j 0==zpr xd oj&&oj.after.toList.all (λe=>!Region.binds .any e||decide (e.on<j))&&(xn j).all λi=>(xd.getD j 0).testBit i||(Z (j<n)||L0.contains i&&Z (i<n))&&match l[i]? with|none=>M|some oi=>oi.apart l.toArray oj
def regOK (l:List Oper)(n:Nat):Bool:=zrp l n []
theorem zgW (xd:List Nat)(i):∀(es:List Edge)(m),(es.foldl (λm e=>if wZ .any e then m|||2^e.on|||xd.getD e.on 0 else m) m).testBit i=U->m.testBit i=U\/∃e∈es,wZ .any e=U/\(i=e.on\/(xd.getD e.on 0).testBit i=U)
 |[],m,h=>.inl h|e::es,m,h=>by
  rcases zgW xd i es _ h with h|⟨b,a,h⟩;·grind
  grind
structure zx1 (l:List Oper)(n:Nat)(xd L0:List Nat):Prop where
 mask:∀j o,l[j]?=O o->xd.getD j 0=zpr xd o
 back:∀j o,l[j]?=O o->∀e∈o.after.toList,wZ .any e=U->e.on<j
 pair:∀i j oi oj,i<j->l[i]?=O oi->l[j]?=O oj->(xd.getD j 0).testBit i=U\/oi.apart l.toArray oj=U
 late:∀i j oj,i<j->n<=j->l[j]?=O oj->(xd.getD j 0).testBit i=U\/i∈L0/\i<n
theorem zlY {l n L0}(h:zrp l n L0=U):∃xd,zx1 l n xd L0:=by
 refine⟨zy4 l [],?_⟩;have key:∀j oj,l[j]?=O oj->((zy4 l []).getD j 0==zpr (zy4 l []) oj)=U/\oj.after.toList.all (λe=>!Region.binds .any e||decide (e.on<j))=U/\∀i,i<j->((zy4 l []).getD j 0).testBit i=U\/(j<n\/i∈L0/\i<n)/\∃oi,l[i]?=O oi/\oi.apart l.toArray oj=U:=by
  intro j oj hj;have hlt:=(yd.1 hj).1;have:=(yq.1 h) j<|yU.2 hlt;simp only[hj,yc]at this;grind
 refine⟨λj o hj=>by simpa using(key j o hj).1,λj o hj e he hb=>?_,λi j oi oj hij hi hj=>?_,λi j oj hij hn hj=>?_⟩;·have:=(yq.1 (key j o hj).2.1) e he;grind
 ·rcases(key j oj hj).2.2 i hij with h|⟨_,oi',h1,h2⟩;·exact .inl h
  ·rw[hi]at h1;cases h1;exact .inr h2
 grind
theorem zty {l}{n}{xd L0}(ok:zx1 l n xd L0):∀(j)(o),l[j]?=O o->∀i,(xd.getD j 0).testBit i=U->i<j:=by
 intro j;induction j using Nat.strongRecOn with|_ j ih=>
  intro o b i a;rw[ok.mask j o b]at a;rcases zgW xd i _ _ a with h|⟨e,d,f,h⟩;·simp at h
  ·have c:=ok.back j o b e d f;grind
def zxa (l:List Oper)(xd:List Nat)(listed:Array Bool):Prop:=∀j,j<l.length->listed.getD j M=U->∀i,(xd.getD j 0).testBit i=U->listed.getD i M=U
theorem zgQ {l}{n}{xd L0}(ok:zx1 l n xd L0){listed}(hc:zxa l xd listed){j}{o}(hj:l[j]?=O o)(hr:∀e∈o.after.toList,wZ .any e=U->listed.getD e.on M=U):∀i,(xd.getD j 0).testBit i=U->listed.getD i M=true:=by
 intro i b;rw[ok.mask j o hj]at b;rcases zgW xd i _ _ b with h|⟨e,a,c,h⟩;·simp at h
 ·rcases h with rfl|h;·grind
  ·have d:=ok.back j o hj e a c;have:=(yd.1 hj).1;exact hc e.on (by omega) (hr e a c) i h
theorem zgI {l:List Oper}{listed}{i}:i∈wr .any l.toArray listed↔∃o,l[i]?=O o/\listed.getD i U=M/\∀e∈o.after.toList,wZ .any e=U->listed.getD e.on M=true:=by
 simp only[wr,List.mem_filter,yU,yc,vK];constructor
 ·rintro⟨a,c,b⟩;rw[yB a]at b|-;grind[Array.all_eq_true_iff_forall_mem]
 grind
theorem zaL (a:Array Bool)(i t)(d)(hi:i<a.size):(a.setIfInBounds i U).getD t d=if t=i then U else a.getD t d:=by
 simp only[y8];grind
theorem zc0 (a:Array Bool)(t)(ht:t<a.size):a.getD t U=a.getD t false:=by grind
def Ctx.plus (C:Ctx)(F:Nat->Option Nat):Ctx:={C with A0:=λb=>C.A0 b\/∃i,F i=O b}
structure zyW (P:Program)(C:Ctx)(bs:List<|Option Nat)(ps:List<|Oper×V)(listed:Nat->Bool)(F:Nat->Option Nat)(a:Act)(w:World):Prop where
 dom:∀(i b:Nat),F i=O b->listed i=U/\∃o v t r,ps[i]?=O (o,v)/\o.op=.alloc t/\o.dst=O r
 has:∀(i:Nat)(o:Oper)(v:V)(t:TypeId)(r:Nat),ps[i]?=O (o,v)->o.op=.alloc t->o.dst=O r->listed i=U->∃b z c,F i=O b/\zbS P t=O z/\a.tmps.getD r Go.undef=.pointer (O ⟨b,0,Y⟩)/\w.heap[b]?=O (.cells c t (0,0))/\(∀j o' d t' y,ps[j]?=O (o',.d d)->o'.op=.store t' (.tmp r) y->listed j=U->∃u:Value,c=u.cells/\D.rep (Own (C.plus F).A0 bs) w d u)/\((∀j o' v' t' y,ps[j]?=O (o',v')->o'.op=.store t' (.tmp r) y->listed j=M)->c=z.cells)inj:∀(i j b:Nat),F i=O b->F j=O b->i=j
 lo:∀(i b:Nat),F i=O b->C.w0.heap.size<=b/\b<w.heap.size
def zfW (l:List Oper):Bool:=(xn l.length).all λi=>match l[i]? with
  |some o=>!zf7 o||(xn l.length).all λk=>k==i||match l[k]? with
   |some o'=>! o'.dst==o.dst|none=>U
  |none=>U
theorem znj {l}(h:zfW l=U):∀(i k:Nat)(o o'),l[i]?=O o->l[k]?=O o'->zf7 o=U->k≠i->o'.dst≠o.dst:=by
 intro i k o o' b c d a;have:=(yq.1 h) i<|yU.2 (yd.1 b).1;grind
def zeI (l:List Oper):Bool:=(xn l.length).all λi=>match l[i]? with
  |some o=>match o.op with
   |.store t (.tmp r) _=>((xn i).any λk=>match l[k]? with
     |some o'=>(match o'.op with|.alloc t'=>t'==t|_=>M)&&o'.dst==O r|none=>M)&&(xn l.length).all λk=>k==i||match l[k]? with
     |some o'=>match o'.op with|.store _ (.tmp r') _=>! r'==r|_=>U
     |none=>U
   |_=>U
  |none=>U
theorem ziK {l}(h:zeI l=U):∀(i:Nat)(o)(t)(r:Nat)(y),l[i]?=O o->o.op=.store t (.tmp r) y->(∃k o',k<i/\l[k]?=O o'/\o'.op=.alloc t/\o'.dst=O r)/\∀k o' t' y',l[k]?=O o'->o'.op=.store t' (.tmp r) y'->k=i:=by
 intro i o t r y a b;have:=(yq.1 h) i<|yU.2 (yd.1 a).1;grind
theorem R.zvP {C A bs s a w w'}(h:R C bs s a w)(hf:Fr zg w w')(hsub:∀b,b<w.heap.size->A b->C.A0 b)(hlt:∀b,A b->b<w'.heap.size):R {C with A0:=A} bs s a w':=by
 have d:∀b,b<w.heap.size->Own A bs b->Own C.A0 bs b:=λb c f=>f.imp (hsub b c) id;refine⟨⟨h.own.apart,λb c e=>h.own.not b c<|hsub b (h.own.lt b c) e,λb c=>yD (h.own.lt b c) hf.size,hlt,h.own.glob.fr hf (λ_ x=>x.elim) d⟩,h.len,λi k l=>Blk.zxq hf d i k<|h.blk i k l,λt v j=>⟨(h.tmp t v j).1,V.zxq hf d v _ (h.tmp t v j).2⟩,h.defers,h.size,h.fr.trans<|hf.mono λ_ _ x=>x.elim,h.new,λp g=>⟨(h.gh p g).1,V.zxq hf d p.1 _ (h.gh p g).2⟩⟩
mutual
theorem V.zvN {A A' w bs H c k}(hl:bs.length=H.length)(hA:∀b,b<w.heap.size->A' b->A b):∀(x:V)(v:Value),V.rep A w bs H x v->V.rep A' w (bs++[c]) (H++[k]) x v
 |.d x,v,hv=>by simp only[V.rep]at hv|-;exact D.zvU (Fr.refl zg w) (λ_ x=>x.elim) hA x v hv|.loc i off,v,hv=>by
  simp only[V.rep]at hv|-;split at hv;·rename_i t cs he;rw[yi (yd.1 he).1,he];obtain⟨b,h1,h2⟩:=hv;exact⟨b,by rw[yi (yd.1 h1).1];exact h1,h2⟩
  ·rename_i he;rw[yi (yd.1 he).1,he];trivial
  ·exact hv.elim|.vec i n,v,hv=>by
  simp only[V.rep]at hv|-;split at hv;·rename_i t k' xs he;have hi:=(yd.1 he).1;rw[yi hi,he];refine⟨hv.1,λhn=>?_⟩;obtain⟨cells,h1,h2,h3⟩:=hv.2 hn;exact⟨cells,h1,by rw[yi<|by omega];exact h2,D.zve (Fr.refl zg w) (λ_ x=>x.elim) hA xs cells h3⟩
  ·rename_i he;rw[yi (yd.1 he).1,he];trivial
  ·exact hv.elim|.el i n j off,v,hv=>by
  simp only[V.rep]at hv|-;split at hv;·rename_i t k' xs he;have hi:=(yd.1 he).1;rw[yi hi,he];refine⟨hv.1,λhn=>?_⟩;obtain⟨hdr,cells,h1,h2,h3,h4⟩:=hv.2 hn;exact⟨hdr,cells,h1,by rw[yi<|by omega];exact h2,D.zve (Fr.refl zg w) (λ_ x=>x.elim) hA xs cells h3,h4⟩
  ·rename_i he;rw[yi (yd.1 he).1,he];trivial
  ·exact hv.elim|.sub i n lo hi,v,hv=>by
  simp only[V.rep]at hv|-;split at hv;·rename_i t k' xs he;have hi:=(yd.1 he).1;rw[yi hi,he];refine⟨hv.1,λhn=>?_⟩;obtain⟨hdr,cells,h1,h2,h3,h4⟩:=hv.2 hn;exact⟨hdr,cells,h1,by rw[yi<|by omega];exact h2,D.zve (Fr.refl zg w) (λ_ x=>x.elim) hA xs cells h3,h4⟩
  ·rename_i he;rw[yi (yd.1 he).1,he];trivial
  ·exact hv.elim|.arr i off n,v,hv=>by
  simp only[V.rep]at hv|-;split at hv;·rename_i t k' xs he;rw[yi (yd.1 he).1,he];obtain⟨b,h1,h2⟩:=hv;exact⟨b,by rw[yi (yd.1 h1).1];exact h1,h2⟩
  ·rename_i he;rw[yi (yd.1 he).1,he];trivial
  ·exact hv.elim|.agg cs,v,hv=>by simp only[V.rep]at hv|-;obtain⟨vs,e,hr⟩:=hv;exact⟨vs,e,V.zws hl hA cs _ hr⟩|.tup cs,v,hv=>by simp only[V.rep]at hv|-;obtain⟨vs,e,hr⟩:=hv;exact⟨vs,e,V.zws hl hA cs _ hr⟩|.fn f fs cs,v,hv=>by simp only[V.rep]at hv|-;obtain⟨vs,us,e,h1,h2⟩:=hv;exact⟨vs,us,e,V.zws hl hA fs _ h1,V.zws hl hA cs _ h2⟩|.mp i,v,hv=>by
  simp only[V.rep]at hv|-;split at hv;·rename_i bo ks ds cl he;rw[yi (yd.1 he).1,he];obtain⟨b,h1,h2⟩:=hv;exact⟨b,by rw[yi (yd.1 h1).1];exact h1,h2⟩
  ·rename_i he;rw[yi (yd.1 he).1,he];trivial
  ·exact hv.elim|.itp i,v,hv=>by
  simp only[V.rep]at hv|-;split at hv;·rename_i j si se la he;rw[yi (yd.1 he).1,he];obtain⟨b,h1,h2⟩:=hv;exact⟨b,by rw[yi (yd.1 h1).1];exact h1,h2⟩
  ·rename_i he;rw[yi (yd.1 he).1,he];obtain⟨b,h1,h2⟩:=hv;exact⟨b,by rw[yi (yd.1 h1).1];exact h1,h2⟩
  ·rename_i he;rw[yi (yd.1 he).1,he];trivial
  ·exact hv.elim|.que i m,v,hv=>by
  simp only[V.rep]at hv|-;split at hv;·rename_i s t k' xs he;rw[yi (yd.1 he).1,he];refine⟨hv.1,λhn=>?_⟩;obtain⟨b,o,cap,h1,h2,h3⟩:=hv.2 hn;exact⟨b,o,cap,by rw[yi (yd.1 h1).1];exact h1,h2,h3.fr (Fr.refl zg w) (λx=>x) (λ_ x=>x.elim) hA⟩
  ·rename_i he;rw[yi (yd.1 he).1,he];trivial
  ·exact hv.elim|.qel i m j,v,hv=>by
  simp only[V.rep]at hv|-;split at hv;·rename_i s t k' xs he;rw[yi (yd.1 he).1,he];refine⟨hv.1,λhn=>?_⟩;obtain⟨b,o,cap,h1,h2,hj,h3⟩:=hv.2 hn;exact⟨b,o,cap,by rw[yi (yd.1 h1).1];exact h1,h2,hj,h3.fr (Fr.refl zg w) (λx=>x) (λ_ x=>x.elim) hA⟩
  ·rename_i he;rw[yi (yd.1 he).1,he];trivial
  ·exact hv.elim|.junk,_,_=>by simp only[V.rep]
theorem V.zws {A A' w bs H c k}(hl:bs.length=H.length)(hA:∀b,b<w.heap.size->A' b->A b):∀(xs:List V)(vs:List Value),V.reps A w bs H xs vs->V.reps A' w (bs++[c]) (H++[k]) xs vs|[],vs,hv=>by simpa only[V.reps]using hv|x::xs,vs,hv=>by simp only[V.reps]at hv|-;obtain⟨v,vs',e,h1,h2⟩:=hv;exact⟨v,vs',e,V.zvN hl hA x v h1,V.zws hl hA xs vs' h2⟩
end
theorem Blk.zvN {A A' w bs H}{c}{k}(hl:bs.length=H.length)(hA:∀b,b<w.heap.size->A' b->A b)(i)(x:Blk)(hx:x.rep A w bs H i):x.rep A' w (bs++[c]) (H++[k]) i:=by cases x with
 |box t cs=>grind[Blk.rep,vf,List.getElem?_eq_some_iff,V.zws]|arr t k xs=>simp only[Blk.rep]at hx|-;obtain⟨b,vs,h1,h2,h3⟩:=hx;exact⟨b,vs,by grind,h2,D.zve (Fr.refl zg w) (λ_ x=>x.elim) hA xs _ h3⟩|mp bo ks ds clock=>simp only[Blk.rep]at hx|-;obtain⟨b,es,h1,h2,h3,h4,h5⟩:=hx;exact⟨b,es,by grind[vf,List.getElem?_eq_some_iff],h2,h3,h4,D.zvs (Fr.refl zg w) (λ_ x=>x.elim) hA ds _ h5⟩|it j since seen last=>
  simp only[Blk.rep]at hx|-;split at hx;·rename_i bo ks ds cl he;rw[yi (yd.1 he).1,he];obtain⟨b,m,h1,h2,h3⟩:=hx;exact⟨b,m,by rw[yi (yd.1 h1).1];exact h1,by rw[yi (yd.1 h2).1];exact h2,h3⟩
  ·rename_i he;rw[yi (yd.1 he).1,he];trivial
  grind|itd bo ks ds clock since seen last=>simp only[Blk.rep]at hx|-;obtain⟨b,mb,es,h1,h2,h3,h4,h5,h6,h7,h8⟩:=hx;exact⟨b,mb,es,by rw[yi (yd.1 h1).1];exact h1,λe=>h2<|hA mb h3 e,h3,h4,h5,h6,D.zvs (Fr.refl zg w) (λ_ x=>x.elim) hA ds _ h7,h8⟩|vec t k xs=>trivial|que s t k xs=>trivial|dead=>trivial
theorem R.adopt {C:Ctx}{A}{bs}{s}{a}{w}{b}{t}{cs}{vs}(h:R {C with A0:=λc=>A c\/c=b} bs s a w)(hb:w.heap[b]?=O (.cells vs t (0,0)))(hA:¬A b)(hlo:C.w0.heap.size<=b)(hcs:V.reps (Own (λc=>A c\/c=b) bs) w bs s.H cs vs.toList):R {C with A0:=A} (bs++[O b]) ⟨s.T,s.H++[.box t cs]⟩ a w:=by
 have hbl:=(yn.1 hb).1;have hnb:O b∉bs:=λhc=>h.own.not b hc<|.inr rfl;have hsub:∀c,c<w.heap.size->Own A (bs++[O b]) c->Own (λc=>A c\/c=b) bs c:=λc _ hc=>by
  rcases hc with hc|hc;·exact .inl<|.inl hc
  ·rcases yu.1 hc with hc|hc;·exact .inr hc
   ·simp only[yK,yo]at hc;exact .inl<|.inr hc
 have hlen:=h.len;refine⟨⟨λi j c hi hj=>?_,λc hc=>?_,λc hc=>?_,λc hc=>h.own.zu5 c<|.inl hc,h.own.glob.fr (Fr.refl zg w) (λ_ x=>x.elim) hsub⟩,by grind,λi k hk=>?_,λu v hv=>⟨(h.tmp u v hv).1,V.zvN hlen hsub v _ (h.tmp u v hv).2⟩,h.defers,h.size,h.fr,λc hc=>?_,λp hp=>⟨(h.gh p hp).1,V.zvN hlen hsub p.1 _ (h.gh p hp).2⟩⟩
 ·rcases uH i bs.length with hib|hib
  ·rw[yi hib]at hi;rcases uH j bs.length with hjb|hjb;·rw[yi hjb]at hj;exact h.own.apart i j c hi hj
   grind
  grind
 ·rcases yu.1 hc with hc|hc;·exactλhA'=>h.own.not c hc<|.inl hA'
  grind
 ·rcases yu.1 hc with hc|hc;·exact h.own.lt c hc
  ·simp only[yK,yo]at hc;subst hc;exact hbl
 ·rcases uH i s.H.length with hi|hi;·simp only at hk;rw[yi hi]at hk;exact Blk.zvN hlen hsub i k<|h.blk i k hk
  ·simp only at hk;rw[yP hi]at hk;have e1:i-s.H.length=0:=by have:=(yd.1 hk).1;simp at this;omega
   have e2:i=bs.length:=by omega
   rw[e1]at hk;simp at hk;subst hk;subst e2;simp only[Blk.rep];exact⟨b,vs,by simp,hb,V.zws hlen hsub cs _ hcs⟩
 ·rcases yu.1 hc with hc|hc;·exact h.new c hc
  ·simp only[yK,yo]at hc;subst hc;exact .inr hlo
def zeroCells (P:Program)(t:TypeId):List V:=match zbS P t with|some z=>z.cells.toList.map λv=>.d<|.val v|none=>[]
def zqO (P:Program)(es:List Ev)(r:Nat)(t:TypeId):List V:=match stored es r with|some d=>V.zvi<|.d d|none=>zeroCells P t
def zhE (P:Program)(es:List Ev):List Blk:=(zwD es).map λp=>.box p.2<|zqO P es p.1 p.2
def zwy:List (Nat×TypeId)->Nat->List (Nat×V)->List (Nat×V)|[],_,T=>T|(r,_)::al,m,T=>zwy al (m+1)<|(r,.loc m 0)::T
theorem ziB {A w bs H}:∀(l),V.reps A w bs H (l.map λv=>.d<|.val v) l|[]=>by simp[V.reps]|v::l=>by exact⟨v,l,rfl,zt.2 rfl,ziB l⟩
def zcr:List (Oper×V)->Nat->List (Nat×Nat×TypeId)|[],_=>[]|(o,_)::ps,k=>(zhD o).map (λp=>(k,p.1,p.2))++zcr ps (k+1)
theorem zjs:∀(ps)(k),(zcr ps k).map (·.2)=zj2 (ps.map (·.1))|[],_=>rfl|(o,v)::ps,k=>by simp only[zcr,un];rw[zjs ps<|k+1];simp[zj2,Function.comp_def]
theorem zkL {o r t}:(r,t)∈zhD o↔o.op=.alloc t/\o.dst=O r:=by
 unfold zhD;grind
theorem zgH:∀(ps)(k i r)(t),(i,r,t)∈zcr ps k->k<=i/\∃o v,ps[i-k]?=O (o,v)/\o.op=.alloc t/\o.dst=O r
 |[],_,_,_,_,h=>by grind[zcr]|(o,v)::ps,k,i,r,t,h=>by
  simp only[zcr,yu,y7]at h;rcases h with⟨⟨d,c⟩,a,rfl,rfl,rfl⟩|h;·exact⟨yk _,o,v,by simp,zkL.1 a⟩
  ·obtain⟨e,f,g,j,b⟩:=zgH ps (k+1) i r t h;grind
theorem zjr:∀(ps)(k i)(o:Oper)(v)(r:Nat)(t),ps[i]?=O (o,v)->o.op=.alloc t->o.dst=O r->(k+i,r,t)∈zcr ps k
 |[],_,_,_,_,_,_,h,_,_=>by simp at h|(o,v)::ps,k,0,c,d,r,t,h,a,b=>by obtain⟨rfl,rfl⟩:=h;simp only[zcr,yu,y7];exact .inl ⟨(r,t),zkL.2 ⟨a,b⟩,rfl⟩|(o,v)::ps,k,i+1,c,d,r,t,h,a,b=>by
  simp only[zcr];have:=zjr ps (k+1) i c d r t (by grind) a b;grind
theorem zkk:∀(ps)(k),(zcr ps k).Pairwise λx y=>x.1<y.1
 |[],_=>by simp[zcr]|(o,v)::ps,k=>by
  simp only[zcr];rw[List.pairwise_append];refine⟨?_,zkk ps<|k+1,λx b y a=>?_⟩;·unfold zhD;cases o.op<;>cases o.dst<;>simp
  ·simp only[y7]at b;obtain⟨i,r,t⟩:=y;have:=(zgH ps (k+1) i r t a).1;grind
theorem R.zyO {C}{F:Nat->Option Nat}{a}{w}{A1:Nat->Prop}(cs:Nat×TypeId->List V):∀(is:List<|Nat×Nat×TypeId)(bs)(T)(H),is.Pairwise (λx y=>x.1<y.1)->(∀i j b,F i=O b->F j=O b->i=j)->(∀q,Own (λb=>C.A0 b\/∃x∈is,F x.1=O b) bs q->A1 q)->(∀x∈is,∃b c,F x.1=O b/\a.tmps.getD x.2.1 Go.undef=.pointer (O ⟨b,0,Y⟩)/\w.heap[b]?=O (.cells c x.2.2 (0,0))/\C.w0.heap.size<=b/\x.2.1<C.n/\¬C.A0 b/\∀A' bs' H',(∀q,A' q->A1 q)->V.reps A' w bs' H' (cs x.2) c.toList)->R {C with A0:=λb=>C.A0 b\/∃x∈is,F x.1=O b} bs ⟨T,H⟩ a w->∃bs',R C bs' ⟨zwy (is.map (·.2)) H.length T,H++(is.map (·.2)).map λp=>.box p.2<|cs p⟩ a w
 |[],bs,T,H,_,_,_,_,h=>by refine⟨bs,?_⟩;have:=h.zvP (A:=C.A0) (Fr.refl zg w) (λb _ hb=>.inl hb) λb hb=>h.own.zu5 b<|.inl hb;simpa[zwy]using this|(i,r,t)::is,bs,T,H,hp,hinj,hA1,hx,h=>by
  obtain⟨b,c,hF,htmp,hheap,hlo,hrn,hA0,hcs⟩:=hx (i,r,t) (by simp);simp only at hF htmp hheap hrn hcs;rw[uS]at hp;have hnotin:¬(C.A0 b\/∃x∈is,F x.1=O b):=by grind
  have h1:R {C with A0:=λc=>(C.A0 c\/∃x∈is,F x.1=O c)\/c=b} bs ⟨T,H⟩ a w:=by
   have:=h.zvP (A:=λc=>(C.A0 c\/∃x∈is,F x.1=O c)\/c=b) (Fr.refl zg w) (λc _ hc=>by
    rcases hc with(hc|⟨x,hx1,hx2⟩)|rfl;·exact .inl hc
    ·exact .inr ⟨x,by simp[hx1],hx2⟩
    ·exact .inr ⟨(i,r,t),by simp,hF⟩) λc hc=>by
    rcases hc with(hc|⟨x,hx1,hx2⟩)|rfl;·exact h.own.zu5 c<|.inl hc
    ·exact h.own.zu5 c<|.inr ⟨x,by simp[hx1],hx2⟩
    ·exact(yn.1 hheap).1
   grind
  have h2:=R.adopt (C:=C) (cs:=cs (r,t)) (vs:=c) h1 hheap hnotin hlo<|hcs _ _ _ λq hq=>hA1 q<|by
   rcases hq with((hq|⟨x,hx1,hx2⟩)|rfl)|hq;·exact .inl<|.inl hq
   ·exact .inl<|.inr ⟨x,by simp[hx1],hx2⟩
   ·exact .inl<|.inr ⟨(i,r,t),by simp,hF⟩
   ·exact .inr hq
  have hlen:=h.len;have h3:R {C with A0:=λc=>C.A0 c\/∃x∈is,F x.1=O c} (bs++[O b]) ⟨(r,.loc H.length 0)::T,H++[.box t<|cs (r,t)]⟩ a w:=by
   refine⟨h2.own,h2.len,h2.blk,λu v hv=>?_,h2.defers,h2.size,h2.fr,h2.new,h2.gh⟩;simp only[zbn]at hv;split at hv<;>rename_i e;·cases hv;subst e;refine⟨hrn,?_⟩;simp only[V.rep];simp only at hlen;rw[yP<|yk _];simp only[uw,yS];exact⟨b,by rw[<-hlen];simp,htmp⟩
   ·exact h2.tmp u v hv
  obtain⟨bs',h4⟩:=R.zyO cs is (bs++[O b]) ((r,.loc H.length 0)::T) (H++[.box t<|cs (r,t)]) hp.2 hinj (λq hq=>hA1 q<|by
   rcases hq with(hq|⟨x,hx1,hx2⟩)|hq;·exact .inl<|.inl hq
   ·exact .inl<|.inr ⟨x,by simp[hx1],hx2⟩
   ·rcases yu.1 hq with hq|hq;·exact .inr hq
    ·simp only[yK,yo]at hq;subst hq;exact .inl<|.inr ⟨(i,r,t),by simp,hF⟩) (λx hx'=>hx x<|by simp[hx']) h3;grind[zwy]
theorem R.zu5 {C bs s a w w' b}(h:R C bs s a w)(hf:Fr (λq=>O b=O q) w w')(hb:C.A0 b)(hlo:C.w0.heap.size<=b):R C bs s a w':=by
 have c:∀q,O b=O q->Own C.A0 bs q/\∀i:Nat,bs[i]?≠O (O q):=by rintro q⟨⟩;exact⟨.inl hb,λi m=>h.own.not b (yC m) hb⟩
 refine⟨⟨h.own.apart,h.own.not,λq f=>yD (h.own.lt q f) hf.size,λq f=>yD (h.own.zu5 q f) hf.size,h.own.glob.fr hf (λq f=>(c q f).1) λ_ _ h=>h⟩,h.len,λi k n=>Blk.zw8 hf c (λ_ _ h=>h) i k<|h.blk i k n,λt v l=>⟨(h.tmp t v l).1,V.zw8 hf c (λ_ _ h=>h) v _ (h.tmp t v l).2⟩,h.defers,h.size,?_,h.new,λp j=>⟨(h.gh p j).1,V.zw8 hf c (λ_ _ h=>h) p.1 _ (h.gh p j).2⟩⟩;refine⟨hf.os.trans h.fr.os,hf.tape.trans h.fr.tape,hf.output.trans h.fr.output,yI h.fr.size hf.size,λq f g=>?_,λd=>yI (h.fr.drawn d)<|hf.drawn d⟩;exact(hf.block q (yD f h.fr.size) λe=>by grind).trans<|h.fr.block q f g
theorem D.zy1 {A w bs H d u}(h:d.rep A w u)(h1:d.ones=U):V.reps A w bs H (V.zvi<|.d d) u.cells.toList:=by
 have b:∀(ds:List D)(a:List Value),D.reps A w ds a->V.reps A w bs H (ds.map .d) a:=by
  intro ds;induction ds with
  |nil=>grind[V.reps,D.reps]|cons x ds ih=>
   intro a h;obtain⟨v,f,rfl,h1,i⟩:=h;simp only[yX,V.reps,V.rep];grind
 cases d with
 |agg ds=>obtain⟨a,rfl,g⟩:=h;exact b ds _ g|val v=>
  have c:(D.val v).shape=none:=by cases v<;>first|rfl|grind[D.ones,D.one]
  rw[D.zvf h c];have e:V.zvi (.d<|.val v)=[.d<|.val v]:=by cases v<;>first|rfl|grind[D.ones,D.one]
  rw[e];simp only[V.reps,V.rep];grind|tup _=>grind[D.ones,D.one]|sl _ _|ref _|fn _ _ _|mp _ _|err|osl _ _=>rw[D.zvf h rfl];simp only[V.zvi,V.reps,V.rep];grind
end
section
variable[zuV][Drw]
theorem zmj (a b):zwD (a++b)=zwD a++zwD b:=by simp[zwD]
theorem zqz (o v):zwD (evOf o v)=zhD o:=by unfold evOf zhD;cases o.op with|alloc t=>cases o.dst<;>rfl|store t x y=>cases x<;>cases v<;>cases o.dst<;>rfl|_=>cases o.dst<;>cases v<;>rfl
theorem zlF:∀(ps),zwD (zwf ps)=zj2 (ps.map (·.1))
 |[]=>rfl|(o,v)::ps=>by
  simp only[zwf,uE];rw[zmj];have a:=zlF ps;grind[zwf,zj2,zqz]
theorem ziJ (a b r):stored (a++b) r=(stored a r).or (stored b r):=by induction a with|nil=>rfl|cons e a ih=>obtain⟨q,t,d⟩:=e;cases d with|none=>grind[stored]|some d=>grind[stored]
theorem zk6:∀(ps)(r)(d),stored (zwf ps) r=O d->∃(j:Nat)(o:Oper)(t:TypeId)(y:Operand),ps[j]?=O (o,.d d)/\o.op=.store t (.tmp r) y|[],r,d,h=>by grind[zwf,stored]|(o,v)::ps,r,d,h=>by simp only[zwf,uE]at h;rw[ziJ]at h;cases a:stored (evOf o v) r with
  |none=>rw[a]at h;obtain⟨j,c,t,y,g,f⟩:=zk6 ps r d h;exact⟨j+1,c,t,y,by grind,f⟩|some d'=>
   rw[a]at h;simp only[Option.some_or,yo]at h;subst h;unfold evOf at a;split at a;·grind[stored]
   ·rename_i t q y i b;simp only[stored]at a;split at a<;>rename_i e;·simp only[yo]at a;subst a;subst e;exact⟨0,o,t,y,by simp,b⟩
    grind
   grind[stored]
theorem zk5:∀(ps)(r),stored (zwf ps) r=Y->∀(j:Nat)(o)(d)(t)(y),ps[j]?=O (o,.d d)->o.op=.store t (.tmp r) y->False|[],r,_,j,o,d,t,y,b,_=>by grind|(o,v)::ps,r,h,j,c,d,t,y,b,a=>by simp only[zwf,uE]at h;rw[ziJ,Option.or_eq_none_iff]at h;cases j with|zero=>obtain⟨rfl,rfl⟩:=b;have:=h.1;simp[evOf,a,stored]at this|succ j=>exact zk5 ps r h.2 j c d t y (by grind) a
theorem zlw {P C bs H T0 Q ps l2 xd L0 l}(hl:l=ps.map (·.1)++l2)(ok:zx1 l ps.length xd L0)(hy:∀i o v,ps[i]?=O (o,v)->YV P C.n l.toArray H o (TL T0 ps (λk=>Z<|k<i) ps.length) v)(hal:zfW (ps.map (·.1))=U)(hst:zeI (ps.map (·.1))=U)(xf:Array Bool->Prop)(hJset:∀(listed)i,i<ps.length->listed.size=l.length->xf listed->xf (listed.setIfInBounds i U))(hpend:∀(m)(listed)(a)(w),listed.size=l.length->xf listed->(∀i,ps.length<=i->listed.getD i M=M)->zxa l xd listed->((xn ps.length).filter λi=>!listed.getD i M).length=m->(∀i,i<ps.length->i∉L0->listed.getD i M=U)->(∃i∈L0,i<ps.length/\listed.getD i M=M)->(∃F,R (C.plus F) bs ⟨TL T0 ps (λk=>listed.getD k M) ps.length,H⟩ a w/\zyW P C bs ps (λk=>listed.getD k M) F a w/\∀i b,F i=O b->¬C.A0 b)->wpAny P .any l.toArray (QR C Q) (m+l2.length) listed a w)(hend:TriL P C l.toArray l2 Q ⟨zwy (zwD<|zwf ps) H.length<|TL T0 ps (λ_=>U) ps.length,H++zhE P (zwf ps)⟩):∀(fuel)(listed)(a)(w),listed.size=l.length->xf listed->(∀i,ps.length<=i->listed.getD i M=M)->zxa l xd listed->((xn ps.length).filter λi=>!listed.getD i M).length+l2.length=fuel->(∃F,R (C.plus F) bs ⟨TL T0 ps (λk=>listed.getD k M) ps.length,H⟩ a w/\zyW P C bs ps (λk=>listed.getD k M) F a w/\∀i b,F i=O b->¬C.A0 b)->wpAny P .any l.toArray (QR C Q) fuel listed a w:=by
 have hlen:l.length=ps.length+l2.length:=by grind
 have hfst:∀i o v,ps[i]?=O (o,v)->l[i]?=O o:=λi o v hi=>by rw[hl,yi<|by simpa using(yd.1 hi).1];simp[hi]
 have main:∀(m:Nat)(listed:Array Bool)(a:Act)(w:World),listed.size=l.length->xf listed->(∀i,ps.length<=i->listed.getD i M=M)->zxa l xd listed->((xn ps.length).filter λi=>!listed.getD i M).length=m->(∃F,R (C.plus F) bs ⟨TL T0 ps (λk=>listed.getD k M) ps.length,H⟩ a w/\zyW P C bs ps (λk=>listed.getD k M) F a w/\∀i b,F i=O b->¬C.A0 b)->wpAny P .any l.toArray (QR C Q) (m+l2.length) listed a w:=by
  have huniq:=znj hal;intro m;induction m with
  |zero=>
   rintro listed a w hsz hL0 hlate hcl hm⟨F,hR,hF,hFA⟩;have hall:∀i,i<ps.length->listed.getD i M=true:=by intro i hi;have:=yY hm;rw[List.filter_eq_nil_iff]at this;simpa using this i<|yU.2 hi
   have hR':R (C.plus F) bs ⟨TL T0 ps (λ_=>U) ps.length,H⟩ a w:=hR.weaken λt v hv=>by rw[<-hv];refine zeF (λi o v hi _=>?_) ps.length;exact hall i (yd.1 hi).1
   have hcov:∀b,(C.A0 b\/∃x∈zcr ps 0,F x.1=O b)↔C.A0 b\/∃i,F i=O b:=by intro b;refine or_congr Iff.rfl ⟨λ⟨x,_,h⟩=>⟨x.1,h⟩,λ⟨i,h⟩=>?_⟩;obtain⟨_,o,v,t,r,ho,h1,h2⟩:=hF.dom i b h;exact⟨(i,r,t),by have:=zjr ps 0 i o v r t ho h1 h2;simpa using this,h⟩
   have hR2:R {C with A0:=λb=>C.A0 b\/∃x∈zcr ps 0,F x.1=O b} bs ⟨TL T0 ps (λ_=>U) ps.length,H⟩ a w:=hR'.zvP (A:=λb=>C.A0 b\/∃x∈zcr ps 0,F x.1=O b) (Fr.refl zg w) (λb _ hb=>(hcov b).1 hb) λb hb=>hR'.own.zu5 b<|(hcov b).1 hb;obtain⟨bs2,hR3⟩:=R.zyO (A1:=Own (C.plus F).A0 bs) (λp=>zqO P (zwf ps) p.1 p.2) (zcr ps 0) bs _ H (zkk ps 0) hF.inj (λq hq=>hq.imp (λh=>(hcov q).1 h) id) (λx hx=>by
    obtain⟨i,r,t⟩:=x;obtain⟨_,o,v,ho,h1,h2⟩:=zgH ps 0 i r t hx;simp only[Nat.sub_zero]at ho;obtain⟨b,z,c,h3,h4,h5,h6,h7,h8⟩:=hF.has i o v t r ho h1 h2<|hall i (yd.1 ho).1;refine⟨b,c,h3,h5,h6,(hF.lo i b h3).1,?_,hFA i b h3,λA' bs' H' hA'=>?_⟩;·have:=(hy i o v ho).1;rw[h2]at this;simpa[zvk]using this
    ·simp only[zqO];cases hs:stored (zwf ps) r with
     |some d=>
      obtain⟨j,o',t',y,g1,g2⟩:=zk6 ps r d hs;obtain⟨u,rfl,hu⟩:=h7 j o' d t' y g1 g2<|hall j (yd.1 g1).1;have hones:d.ones=true:=by
       rcases(hy j o' _ g1).2 with⟨q,_⟩|⟨_,⟨t2,r2,q,_⟩,_⟩|⟨q,_⟩|⟨_,t2,r2,y2,d2,k2,q1,q2,q3,q4,q5,q6,q7⟩;·simp[zaq,g2]at q
       ·rw[g2]at q;cases q
       ·simp[zaq,g2]at q
       ·cases q7;exact q4
      exact D.zy1 (D.zvU (Fr.refl zg w) (λ_ x=>x.elim) (λq _ hq=>hA' q hq) d u hu) hones|none=>
      have hnone:=zk5 ps r hs;rw[h8 λj o' v' t' y g1 g2=>by
       exfalso;rcases(hy j o' v' g1).2 with⟨q,_⟩|⟨_,⟨t2,r2,q,_⟩,_⟩|⟨q,_⟩|⟨_,t2,r2,y2,d2,k2,q1,q2,q3,q4,q5,q6,q7⟩;·simp[zaq,g2]at q
       ·rw[g2]at q;cases q
       ·simp[zaq,g2]at q
       ·subst q7;exact hnone j o' d2 t' y g1 g2];simp only[zeroCells,h4];exact ziB _) hR2;rw[zjs,<-zlF]at hR3;have hw:=hend.run bs2 a w hR3;rw[ug];have hseq:∀(g k:Nat)(listed:Array Bool),k+g=l.length->ps.length<=k->listed.size=l.length->(∀i,i<k->listed.getD i M=U)->(∀i,k<=i->listed.getD i M=M)->Region.seqB .any l.toArray g k listed=true:=by
    intro g;induction g with
    |zero=>intro k listed hk _ hsz h1 _;simp only[Region.seqB,List.isEmpty_iff];rw[List.eq_nil_iff_forall_not_mem];intro i hi;obtain⟨o,ho,hlf,_⟩:=zgI.1 hi;have hlt:=(yd.1 ho).1;rw[zc0 _ _<|by omega,h1 i<|by omega]at hlf;cases hlf|succ g ih=>
     intro k listed hk hps hsz h1 h2;have hkl:k<l.length:=by omega
     have hok:l[k]?=O l[k]:=yB hkl;have hready:wr .any l.toArray listed=[k]:=by
      have hmem:∀i,i∈wr .any l.toArray listed↔i=k:=by
       intro i;rw[zgI];constructor
       ·rintro⟨o,ho,hlf,he⟩;have hlt:=(yd.1 ho).1;rw[zc0 _ _<|by omega]at hlf;by_cases hik:i<k;·rw[h1 i hik]at hlf;cases hlf
        ·by_cases hki:i=k;·exact hki
         ·exfalso;have hb:=(ok.late k i o (by omega) (by omega) ho).resolve_right (λhh=>by omega);have hcl2:zxa l xd listed:=by
           intro j hj hjl i' hi';by_cases hjk:j<k
           ·have hoj:=yB hj;by_cases hi'k:i'<k;·exact h1 i' hi'k
            ·exfalso;exact absurd hi'<|by have:=zty ok j _ hoj i';intro hc;have:=this hc;omega
           ·rw[h2 j<|by omega]at hjl;cases hjl
          have:=zgQ ok hcl2 ho he k hb;rw[h2 k<|yk _]at this;cases this
       ·rintro rfl;refine⟨_,hok,by rw[zc0 _ _<|by omega];exact h2 i<|yk _,λe he hb=>h1 _<|ok.back i _ hok e he hb⟩
      have hnd:(wr .any l.toArray listed).Nodup:=List.Pairwise.filter _ List.nodup_range;generalize wr .any l.toArray listed=r at hmem hnd;match r,hmem,hnd with
      |[],hmem,_=>exact absurd ((hmem k).2 rfl)<|by simp|[x],hmem,_=>rw[(hmem x).1<|by simp]|x::y::r,hmem,hnd=>have h1:=(hmem x).1 (by simp);have h2:=(hmem y).1 (by simp);rw[h1,h2]at hnd;simp at hnd
     simp only[Region.seqB,hready,decide_true,yA];refine ih (k+1) _ (by omega) (by omega) (by simpa using hsz) (λi hi=>?_) λi hi=>?_
     ·rw[zaL _ _ _ _<|by omega];split;·rfl
      ·exact h1 i<|by omega
     ·rw[zaL _ _ _ _<|by omega,if_neg<|by omega];exact h2 i<|by omega
   exact wpAny_of_seq l2 ps.length listed a w (λj=>by rw[hl];simp only[vK];rw[yP<|by simp];simp) (hseq l2.length ps.length listed (by omega) (yk _) hsz hall hlate) hw|succ m ih=>
   rintro listed a w hsz hL0 hlate hcl hm⟨F,hR,hF,hFA⟩;rw[show m+1+l2.length=m+l2.length+1 by omega];by_cases hnon:∀i,i<ps.length->i∉L0->listed.getD i M=U
   ·have hexp:∃i∈L0,i<ps.length/\listed.getD i M=false:=by
     have hne:((xn ps.length).filter λi=>!listed.getD i M)≠[]:=λh=>by rw[h]at hm;simp at hm
     obtain⟨i,hi⟩:=List.exists_mem_of_ne_nil _ hne;simp only[List.mem_filter,yU,yz]at hi;refine⟨i,xG λhc=>?_,hi⟩;rw[hnon i hi.1 hc]at hi;cases hi.2
    have:=hpend (m+1) listed a w hsz hL0 hlate hcl hm hnon hexp ⟨F,hR,hF,hFA⟩;rw[show m+1+l2.length=m+l2.length+1 by omega]at this;exact this
   have hnon':∃i,i<ps.length/\i∉L0/\listed.getD i M=false:=by
    refine xG λhc=>hnon λi h1 h2=>?_;cases hb:listed.getD i M with
    |true=>rfl|false=>exact absurd ⟨i,h1,h2,hb⟩ hc
   have hex:∃i,i<ps.length/\listed.getD i M=false:=by
    have hne:((xn ps.length).filter λi=>!listed.getD i M)≠[]:=λh=>by rw[h]at hm;simp at hm
    obtain⟨i,hi⟩:=List.exists_mem_of_ne_nil _ hne;simp only[List.mem_filter,yU,yz]at hi;exact⟨i,hi⟩
   have hleast:∃i,i<ps.length/\listed.getD i M=M/\∀k,k<i->listed.getD k M=true:=by
    obtain⟨i,hi⟩:=hex;induction i using Nat.strongRecOn with|_ i ih2=>
     by_cases h:∀k,k<i->listed.getD k M=U;·exact⟨i,hi.1,hi.2,h⟩
     ·have:∃k,k<i/\listed.getD k M=false:=by
       refine xG λhc=>h λk hk=>?_;cases hb:listed.getD k M with
       |true=>rfl|false=>exact absurd ⟨k,hk,hb⟩ hc
      obtain⟨k,hk,hkl⟩:=this;exact ih2 k hk ⟨by omega,hkl⟩
   refine⟨λhnil=>?_,λi hi=>?_⟩
   ·obtain⟨i,hips,hil,hbelow⟩:=hleast;have hlt:i<l.length:=by omega
    have:i∈wr .any l.toArray listed:=zgI.2 ⟨l[i],yB hlt,by rw[zc0 _ _<|by omega];exact hil,λe he hb=>hbelow _<|ok.back i _ (yB hlt) e he hb⟩;rw[hnil]at this;cases this
   ·obtain⟨o,ho,hil,hedges⟩:=zgI.1 hi;have hlt:=(yd.1 ho).1;rw[zc0 _ _<|by omega]at hil;have hbef:=zgQ ok hcl ho hedges;have hips:i<ps.length:=by
     refine Nat.lt_of_not_le λhc=>?_;obtain⟨k,hk,hkn,hkl⟩:=hnon';rcases ok.late k i o (by omega) hc ho with hh|hh;·have:=hbef k hh;rw[hkl]at this;cases this
     ·exact hkn hh.1
    have hpi:ps[i]?=O (ps[i].1,ps[i].2):=yB hips;have hoi:o=ps[i].1:=by have:=hfst i _ _ hpi;rw[ho]at this;simpa using this
    subst hoi;have hlook:∀t∈ps[i].1.looksAt l.toArray,look t (TL T0 ps (λk=>Z<|k<i) ps.length)=look t (TL T0 ps (λk=>listed.getD k M) ps.length):=by
     intro t ht;refine zeF (λk ok' vk hk hd=>?_) ps.length;have hlk:=hfst k ok' vk hk;rcases Nat.lt_trichotomy k i with hki|hki|hki
     ·simp only[hki,decide_true];rcases ok.pair k i ok' _ hki hlk ho with hb|hap;·exact(hbef k hb).symm
      ·exact absurd ht<|(wD hap).1 t hd
     ·subst hki;simp only[Nat.lt_irrefl,decide_false];exact hil.symm
     ·simp only[show¬k<i by omega,decide_false];cases hb:listed.getD k M with
      |false=>rfl|true=>
       exfalso;rcases ok.pair i k _ ok' hki ho hlk with hb2|hap;·have:=hcl k (by have:=(yd.1 hlk).1;omega) hb i hb2;rw[hil]at this;cases this
       ·exact(wD hap).2.2 t hd ht
    have hyi:=(hy i _ _ hpi).congr hlook;obtain⟨hdst,hyi⟩:=hyi;have next:∀(w':World)(u:Value)(F':Nat->Option Nat),R (C.plus F') bs (St.put ⟨TL T0 ps (λk=>listed.getD k M) ps.length,H⟩ ps[i].1.dst ps[i].2) (a.put ps[i].1.dst u) w'->zyW P C bs ps (λk=>(listed.setIfInBounds i U).getD k M) F' (a.put ps[i].1.dst u) w'->(∀i b,F' i=O b->¬C.A0 b)->wpAny P .any l.toArray (QR C Q) (m+l2.length) (listed.setIfInBounds i U) (a.put ps[i].1.dst u) w':=by
     intro w' u F' hR2 hF2 hFA2;refine ih _ _ _ (by simpa using hsz) (hJset _ _ hips hsz hL0) (λk hk=>by rw[zaL _ _ _ _<|by omega,if_neg<|by omega];exact hlate k hk) ?_ ?_ ?_
     ·intro j hj hjl i' hi';rw[zaL _ _ _ _<|by omega]at hjl|-;split;·rfl
      ·rename_i hne;split at hjl<;>rename_i hji;·subst hji;exact hbef i' hi'
       ·exact hcl j hj hjl i' hi'
     ·have hcount:∀n,i<n->((xn n).filter λk=>!(listed.setIfInBounds i U).getD k M).length+1=((xn n).filter λk=>!listed.getD k M).length:=by
       intro n;induction n with
       |zero=>intro h;omega|succ n ihn=>
        intro hin;simp only[uy,List.filter_append,yT];by_cases hn:i=n
        ·subst hn;have e1:(xn i).filter (λk=>!(listed.setIfInBounds i U).getD k M)=(xn i).filter λk=>!listed.getD k M:=by
          refine List.filter_congr λk hk=>?_;rw[zaL _ _ _ _<|by omega,if_neg<|by have:=yU.1 hk;omega]
         rw[e1];have e3:(listed.setIfInBounds i U).getD i M=true:=by rw[zaL _ _ _ _<|by omega,if_pos rfl]
         simp only[List.filter_cons,List.filter_nil,e3,hil];simp
        ·have:=ihn (by omega);have e2:(listed.setIfInBounds i U).getD n M=listed.getD n false:=by rw[zaL _ _ _ _<|by omega,if_neg<|by omega]
         simp only[List.filter_cons,List.filter_nil,e2];omega
      have:=hcount ps.length hips;omega
     ·refine⟨F',?_,hF2,hFA2⟩;rw[St.put_eq]at hR2;refine hR2.weaken λt v hv=>?_;rw[<-hv];rw[zek];by_cases hd:ps[i].1.dst=O t
      ·rw[if_pos hd];have h1:look t (TL T0 ps (λk=>(listed.setIfInBounds i U).getD k M) ps.length)=look t (TL T0 ps (λk=>Z<|k<i+1) ps.length):=by
        refine zeF (λk ok' vk hk hdk=>?_) ps.length;have hlk:=hfst k ok' vk hk;rw[zaL _ _ _ _<|by omega];rcases Nat.lt_trichotomy k i with hki|hki|hki
        ·rw[if_neg<|by omega];simp only[show k<i+1 by omega,decide_true];rcases ok.pair k i ok' _ hki hlk ho with hb|hap;·exact hbef k hb
         ·exact absurd hd<|(wD hap).2.1 t hdk
        ·rw[if_pos hki];simp[hki]
        ·rw[if_neg<|by omega];simp only[show¬k<i+1 by omega,decide_false];cases hb:listed.getD k M with
         |false=>rfl|true=>
          exfalso;rcases ok.pair i k _ ok' hki ho hlk with hb2|hap;·have:=hcl k (by have:=(yd.1 hlk).1;omega) hb i hb2;rw[hil]at this;cases this
          ·exact(wD hap).2.1 t hd hdk
       rw[h1];have h2:=zfF (T:=T0) (ps:=ps) (p:=λk=>Z<|k<i+1) (m:=i+1) (λk hk=>by simp;omega)<|ps.length-(i+1);rw[show i+1+(ps.length-(i+1))=ps.length by omega]at h2;rw[h2];simp only[TL,hpi,Nat.lt_succ_self,decide_true,if_true,zek,hd]
      ·rw[if_neg hd];refine zeF (λk ok' vk hk hdk=>?_) ps.length;rw[zaL _ _ _ _<|by omega];split;·rename_i hki;subst hki;rw[hpi]at hk;simp only[yo,yh]at hk;obtain⟨rfl,_⟩:=hk;exact absurd hdk hd
       ·rfl
    have hli:∀k,(listed.setIfInBounds i U).getD k M=U↔k=i\/listed.getD k M=true:=λk=>by
     rw[zaL _ _ _ _<|by omega];by_cases hk:k=i;·simp[hk]
     ·simp[hk]
    have keepF:∀(w':World)(u:Value),Fr zg w w'->zaq ps[i].1=M->zyW P C bs ps (λk=>(listed.setIfInBounds i U).getD k M) F (a.put ps[i].1.dst u) w':=by
     intro w' u hfr hnsp;have hna:=zrj hnsp;refine⟨λk b hk=>?_,λk o v t r hk h1 h2 h3=>?_,hF.inj,λk b hk=>⟨(hF.lo k b hk).1,yD (hF.lo k b hk).2 hfr.size⟩⟩;·obtain⟨h1,h2⟩:=hF.dom k b hk;exact⟨(hli k).2<|.inr h1,h2⟩
     ·have hki:k≠i:=by rintro rfl;rw[hpi]at hk;simp only[yo,yh]at hk;obtain⟨rfl,_⟩:=hk;simp[zf7,h1]at hna
      have hl3:listed.getD k M=true:=((hli k).1 h3).resolve_left hki;obtain⟨b,z,c,e1,e2,e3,e4,e5,e6⟩:=hF.has k o v t r hk h1 h2 hl3;have hsti:∀j o' v' t' y,ps[j]?=O (o',v')->o'.op=.store t' (.tmp r) y->j≠i:=by rintro j o' v' t' y g1 g2 rfl;rw[hpi]at g1;simp only[yo,yh]at g1;obtain⟨rfl,_⟩:=g1;simp[zaq,g2]at hnsp
      refine⟨b,z,c,e1,e2,?_,by rw[hfr.block b (hF.lo k b e1).2 λx=>x];exact e4,λj o' d t' y g1 g2 g3=>?_,λhno=>e6 λj o' v' t' y g1 g2=>?_⟩;·have hne:=huniq k i o ps[i].1 (by simp[hk]) (by simp[hpi]) (by simp[zf7,h1]) λh=>hki h.symm;rw[h2]at hne;cases hd:ps[i].1.dst with
       |none=>simpa[vn]using e3|some d=>
        rw[hd]at hne hdst;have hdn:d<a.tmps.size:=by rw[hR.size];simpa[zvk,Ctx.plus]using hdst
        simp only[vn,zdb _ _ _ _ _ hdn];rw[if_neg<|by intro h;exact hne<|by rw[h]];exact e3
      ·obtain⟨u,hu1,hu2⟩:=e5 j o' d t' y g1 g2<|((hli j).1 g3).resolve_left<|hsti j o' _ t' y g1 g2;exact⟨u,hu1,D.zwr hfr hu2⟩
      ·have:=hno j o' v' t' y g1 g2;cases hb:listed.getD j M with
       |false=>rfl|true=>rw[(hli j).2<|.inr hb]at this;cases this
    unfold wpOp;have hoa:l.toArray[i]?=O ps[i].1:=by simpa using ho
    simp only[hoa];rcases hyi with⟨hna,hg,hv⟩|⟨hg,⟨t,r,hop,hdr,hz⟩,hvj⟩|⟨hna,j,want,g,hg,hj,hyi⟩|⟨hg,t,r,y,d,k,hop,hdn,hey,hone,hsh,hzf,hvd⟩;·rw[if_pos<|by simp[wg,hg]];left;refine Oper.zv9 (hv.run (C.plus F).A0 bs w a.eval hR.mem (λx _ y hx=>hR.ev hx) (λ_=>rfl) λ_=>rfl) λu w'⟨hfr,hu⟩=>next w' u F (hR.put hfr _ hdst hu) (keepF w' u hfr hna) hFA
    ·rw[if_pos<|by simp[wg,hg]];left;cases hzz:zbS P t with
     |none=>rw[hzz]at hz;cases hz|some z=>
      have hrun:(execOp a.eval ps[i].1).run P w=.ok (.value<|.pointer<|O ⟨w.heap.size,0,Y⟩) (w.alloc<|.cells z.cells t):=by unfold zbS at hzz;cases hi:P.info? t with
       |none=>simp[hi]at hzz|some inf=>simp only[hi]at hzz;simp only[execOp,hop,Instr.alloc,zeroValue,typeInfo,program,newVar,newRow,newObj,xr,Sem.run,hi,hzz,xt,xi];rfl
      have hfr:Fr zg w<|w.alloc<|.cells z.cells t:=⟨rfl,rfl,rfl,by simp,λb hb _=>xE w _ b hb,λ_=>yk _⟩;unfold vo;rw[hrun];simp only[va];have hrn:r<a.tmps.size:=by rw[hdr]at hdst;rw[hR.size];simpa[zvk,Ctx.plus]using hdst
      have hFi:F i=none:=by cases hFi:F i with|none=>rfl|some b=>have:=(hF.dom i b hFi).1;rw[hil]at this;cases this
      let F':Nat->Option Nat:=λk=>if k=i then O w.heap.size else F k;have hF':∀k b,F' k=O b->k=i/\b=w.heap.size\/k≠i/\F k=O b:=by
       intro k b h;simp only[F']at h;split at h<;>rename_i e;·exact .inl ⟨e,by simpa using h.symm⟩
       ·exact .inr ⟨e,h⟩
      refine next _ _ F' ?_ ⟨λk b hk=>?_,λk o v t' r' hk h1 h2 h3=>?_,λk k' b h1 h2=>?_,λk b hk=>?_⟩ λk b hk=>?_
      ·have hR1:R (C.plus F') bs ⟨TL T0 ps (λk=>listed.getD k M) ps.length,H⟩ a<|w.alloc<|.cells z.cells t:=by
        have:=hR.zvP (A:=(C.plus F').A0) hfr (λb hb hb'=>?_) λb hb'=>?_;·exact this
        ·rcases hb' with hb'|⟨k,hk⟩;·exact .inl hb'
         ·rcases hF' k b hk with⟨_,e⟩|⟨_,e⟩;·omega
          ·exact .inr ⟨k,e⟩
        ·rcases hb' with hb'|⟨k,hk⟩;·exact yD (hR.own.zu5 b<|.inl hb') hfr.size
         ·rcases hF' k b hk with⟨_,e⟩|⟨_,e⟩;·subst e;simp
          ·exact yD (hF.lo k b e).2 hfr.size
       rw[hvj];exact hR1.put (Fr.refl _ _) _ hdst<|by simp only[V.rep]
      ·rcases hF' k b hk with⟨e1,_⟩|⟨_,e2⟩;·subst e1;exact⟨(hli k).2<|.inl rfl,_,_,t,r,hpi,hop,hdr⟩
       ·obtain⟨d1,d2⟩:=hF.dom k b e2;exact⟨(hli k).2<|.inr d1,d2⟩
      ·by_cases hki:k=i
       ·subst hki;rw[hpi]at hk;simp only[yo,yh]at hk;obtain⟨rfl,_⟩:=hk;rw[hop]at h1;cases h1;rw[hdr]at h2;cases h2;refine⟨w.heap.size,z,z.cells,by simp[F'],hzz,?_,heap_alloc_new w _,λj o' d t' y g1 g2 g3=>?_,λ_=>rfl⟩;·simp only[hdr,vn,zdb _ _ _ _ _ hrn,if_true]
        ·exfalso;have hjk:j≠k:=by rintro rfl;rw[hpi]at g1;simp only[yo,yh]at g1;obtain⟨rfl,_⟩:=g1;rw[hop]at g2;cases g2
         have hjl:=((hli j).1 g3).resolve_left hjk;obtain⟨⟨q,oq,hq1,hq2,hq3,hq4⟩,_⟩:=ziK hst j o' t' r y (by simp[g1]) g2;have hqk:q=k:=by
          refine xG λhne=>?_;exact huniq q k oq ps[k].1 hq2 (by simp[hpi]) (by simp[zf7,hq3]) (λh=>hne h.symm)<|by rw[hq4,hdr]
         subst hqk;have hlj:=hfst j o' _ g1;rcases ok.pair q j _ o' hq1 ho hlj with hb|hap;·have:=hcl j (yd.1 hlj).1 hjl q hb;rw[hil]at this;cases this
         ·refine(wD hap).1 r hdr ?_;simp only[Oper.looksAt,yu,List.mem_filterMap];left;exact⟨.tmp r,by simp[g2,xk],rfl⟩
       ·have hl3:listed.getD k M=true:=((hli k).1 h3).resolve_left hki;obtain⟨b,z',c,e1,e2,e3,e4,e5,e6⟩:=hF.has k o v t' r' hk h1 h2 hl3;have hsti:∀j o' v' t' y,ps[j]?=O (o',v')->o'.op=.store t' (.tmp r') y->j≠i:=by rintro j o' v' t' y g1 g2 rfl;rw[hpi]at g1;simp only[yo,yh]at g1;obtain⟨rfl,_⟩:=g1;rw[hop]at g2;cases g2
        refine⟨b,z',c,by simp[F',hki,e1],e2,?_,by rw[hfr.block b (hF.lo k b e1).2 λx=>x];exact e4,λj o' d t'' y g1 g2 g3=>?_,λhno=>e6 λj o' v' t'' y g1 g2=>?_⟩;·have hne:=huniq k i o ps[i].1 (by simp[hk]) (by simp[hpi]) (by simp[zf7,h1]) λh=>hki h.symm;rw[h2,hdr]at hne;simp only[hdr,vn,zdb _ _ _ _ _ hrn];rw[if_neg<|by intro h;exact hne<|by rw[h]];exact e3
        ·obtain⟨u,hu1,hu2⟩:=e5 j o' d t'' y g1 g2<|((hli j).1 g3).resolve_left<|hsti j o' _ t'' y g1 g2;refine⟨u,hu1,D.zvU hfr (λ_ x=>x.elim) (λq hq hq'=>?_) d u hu2⟩;rcases hq' with(hq'|⟨p,hp⟩)|hq';·exact .inl<|.inl hq'
         ·rcases hF' p q hp with⟨_,e⟩|⟨_,e⟩;·omega
          ·exact .inl<|.inr ⟨p,e⟩
         ·exact .inr hq'
        ·have:=hno j o' v' t'' y g1 g2;cases hb:listed.getD j M with
         |false=>rfl|true=>rw[(hli j).2<|.inr hb]at this;cases this
      ·rcases hF' k b h1 with⟨e1,e2⟩|⟨e1,e2⟩<;>rcases hF' k' b h2 with⟨e3,e4⟩|⟨e3,e4⟩;·omega
       ·have:=(hF.lo k' b e4).2;omega
       ·have:=(hF.lo k b e2).2;omega
       ·exact hF.inj k k' b e2 e4
      ·rcases hF' k b hk with⟨_,e⟩|⟨_,e⟩;·subst e;exact⟨hR.fr.size,by simp⟩
       ·exact⟨(hF.lo k b e).1,yD (hF.lo k b e).2 hfr.size⟩
      ·rcases hF' k b hk with⟨_,e⟩|⟨_,e⟩;·subst e;exactλh=>absurd (hR.own.zu5 _<|.inl h)<|by omega
       ·exact hFA k b e
    ·rcases hyi with⟨hgl,hv⟩|⟨hgl,hvu⟩;·have hyl:=hR.yielded hj hgl;rw[if_pos<|by simp[wg,hg,hyl,zjt]];left;refine Oper.zv9 (hv.run (C.plus F).A0 bs w a.eval hR.mem (λx _ y hx=>hR.ev hx) (λ_=>rfl) λ_=>rfl) λu w'⟨hfr,hu⟩=>next w' u F (hR.put hfr _ hdst hu) (keepF w' u hfr hna) hFA
     ·have hyl:Go.yielded l.toArray a.tmps j≠O want:=by
       rcases hgl with hgl|hgl;·rw[hR.yielded hj hgl];simp[zjt,Go.undef]
       ·rw[hR.yielded hj hgl];cases want<;>simp[zjt]
      rw[if_neg<|by simp[wg,hg,hyl]];exact next w Go.undef F (hR.put (Fr.refl _ _) _ hdst<|by rw[hvu];exact zt.2 rfl) (keepF w Go.undef (Fr.refl _ _) hna) hFA
    ·rw[if_pos<|by simp[wg,hg]];left;obtain⟨⟨q,oq,hq1,hq2,hq3,hq4⟩,hone1⟩:=ziK hst i _ t r y (by simp[hpi]) hop;have hq5:∃vq,ps[q]?=O (oq,vq):=by simp only[y6,Option.map_eq_some_iff]at hq2;obtain⟨⟨o1,v1⟩,g1,g2⟩:=hq2;simp only at g2;subst g2;exact⟨v1,g1⟩
     obtain⟨vq,hq5⟩:=hq5;have hql:listed.getD q M=true:=by
      rcases ok.pair q i oq _ hq1 (hfst q oq vq hq5) ho with hb|hap;·exact hbef q hb
      ·exfalso;refine(wD hap).1 r hq4 ?_;simp only[Oper.looksAt,yu,List.mem_filterMap];left;exact⟨.tmp r,by simp[hop,xk],rfl⟩
     obtain⟨b,z,c,e1,e2,e3,e4,e5,e6⟩:=hF.has q oq vq t r hq5 hq3 hq4 hql;have hcz:c=z.cells:=e6 λj o' v' t' y' g1 g2=>by have:=hone1 j o' t' y' (by simp[g1]) g2;rw[this];exact hil
     subst hcz;have hyr:=hR.ev hey;simp only[V.rep]at hyr;unfold zcX at hzf;cases hinf:P.info? t with
     |none=>simp[hinf]at hzf|some inf=>
      simp only[hinf,yc,beq_iff_eq]at hzf;obtain⟨hzs,hzf⟩:=hzf;have hz2:inf.zero=O z:=by unfold zbS at e2;simpa[hinf]using e2
      simp only[hz2,beq_iff_eq]at hzf;have hcs:(a.eval y).cells.size=inf.size:=by rw[D.zxX hyr hsh,hzs]
      have hstc:=run_storeCells_from (P:=P) b t (a.eval y).cells.toList 0 z.cells w e4 (by simp;omega) λv hv=>D.zwU hyr hone v hv;have hevr:a.eval (.tmp r)=.pointer (O ⟨b,0,Y⟩):=e3;have hrun:(execOp a.eval ps[i].1).run P w=.ok .skip (w.setRow b (a.eval y).cells):=by simp only[execOp,hop,hevr,Instr.storeAt,wj,storeVar,sizeOf,typeInfo,program,xr,Sem.run,hinf,xt,xi,hcs,ne_eq,not_true_eq_false,if_false];simp only[List.take_zero,yN,vp]at hstc;simp[hstc]
      unfold vo;rw[hrun];simp only[va];have hfr:Fr (λp=>O b=O p) w<|w.setRow b (a.eval y).cells:=⟨rfl,rfl,rfl,by simp,λp _ hno=>setRow_other w b p _ λe=>hno<|by rw[e],λ_=>yk _⟩;have hR2:=hR.zu5 hfr (.inr ⟨q,e1⟩) (hF.lo q b e1).1;refine next _ Go.undef F (by rw[hdn];exact hR2) ⟨λk b' hk=>?_,λk o v t' r' hk h1 h2 h3=>?_,hF.inj,λk b' hk=>⟨(hF.lo k b' hk).1,by simpa using(hF.lo k b' hk).2⟩⟩ hFA;·obtain⟨g1,g2⟩:=hF.dom k b' hk;exact⟨(hli k).2<|.inr g1,g2⟩
      ·have hki:k≠i:=by rintro rfl;rw[hpi]at hk;simp only[yo,yh]at hk;obtain⟨rfl,_⟩:=hk;rw[hop]at h1;cases h1
       have hl3:listed.getD k M=true:=((hli k).1 h3).resolve_left hki;obtain⟨b',z',c',f1,f2,f3,f4,f5,f6⟩:=hF.has k o v t' r' hk h1 h2 hl3;have hWA:∀p,O b=O p->Own (C.plus F).A0 bs p:=by rintro p⟨⟩;exact .inl<|.inr ⟨q,e1⟩
       rw[hdn];by_cases hrr:r'=r
       ·subst hrr;have hkq:k=q:=by
         refine xG λhne=>?_;exact huniq q k oq o hq2 (by simp[hk]) (by simp[zf7,hq3]) hne<|by rw[h2,hq4]
        subst hkq;rw[hq5]at hk;simp only[yo,yh]at hk;obtain⟨rfl,rfl⟩:=hk;rw[hq3]at h1;cases h1;rw[e1]at f1;cases f1;refine⟨b,z',(a.eval y).cells,e1,f2,f3,setRow_heap w b z.cells _ t _ e4,λj o' d' t'' y' g1 g2 _=>?_,λhno=>?_⟩
        ·have hji:=hone1 j o' t'' y' (by simp[g1]) g2;subst hji;rw[hpi]at g1;simp only[yo,yh]at g1;have hd':d'=d:=by have:=g1.2;rw[hvd]at this;cases this;rfl
         subst hd';exact⟨a.eval y,rfl,D.zvU hfr hWA (λ_ _ h=>h) d' _ hyr⟩
        ·have:=hno i _ _ t y hpi hop;rw[(hli i).2<|.inl rfl]at this;cases this
       ·have hbb:b'≠b:=by rintro rfl;have:=hF.inj k q _ f1 e1;subst this;rw[hq5]at hk;simp only[yo,yh]at hk;obtain⟨rfl,_⟩:=hk;rw[hq4]at h2;cases h2;exact hrr rfl
        have hsti:∀j o' v' t'' y',ps[j]?=O (o',v')->o'.op=.store t'' (.tmp r') y'->j≠i:=by rintro j o' v' t'' y' g1 g2 rfl;rw[hpi]at g1;simp only[yo,yh]at g1;obtain⟨rfl,_⟩:=g1;rw[hop]at g2;cases g2;exact hrr rfl
        refine⟨b',z',c',f1,f2,f3,by rw[setRow_other w b b' _ hbb];exact f4,λj o' d' t'' y' g1 g2 g3=>?_,λhno=>f6 λj o' v' t'' y' g1 g2=>?_⟩;·obtain⟨u,hu1,hu2⟩:=f5 j o' d' t'' y' g1 g2<|((hli j).1 g3).resolve_left<|hsti j o' _ t'' y' g1 g2;exact⟨u,hu1,D.zvU hfr hWA (λ_ _ h=>h) d' u hu2⟩
        ·have:=hno j o' v' t'' y' g1 g2;cases hb:listed.getD j M with|false=>rfl|true=>rw[(hli j).2<|.inr hb]at this;cases this
 grind
theorem ziP {P C bs H T0 Q ps l2 xd L0 l}(hl:l=ps.map (·.1)++l2)(ok:zx1 l ps.length xd L0)(hy:∀i o v,ps[i]?=O (o,v)->YV P C.n l.toArray H o (TL T0 ps (λk=>Z<|k<i) ps.length) v)(hal:zfW (ps.map (·.1))=U)(hst:zeI (ps.map (·.1))=U)(hend:TriL P C l.toArray l2 Q ⟨zwy (zwD<|zwf ps) H.length<|TL T0 ps (λ_=>U) ps.length,H++zhE P (zwf ps)⟩):∀(fuel)(listed)(a)(w),listed.size=l.length->(∀i∈L0,listed.getD i M=U)->(∀i,ps.length<=i->listed.getD i M=M)->zxa l xd listed->((xn ps.length).filter λi=>!listed.getD i M).length+l2.length=fuel->(∃F,R (C.plus F) bs ⟨TL T0 ps (λk=>listed.getD k M) ps.length,H⟩ a w/\zyW P C bs ps (λk=>listed.getD k M) F a w/\∀i b,F i=O b->¬C.A0 b)->wpAny P .any l.toArray (QR C Q) fuel listed a w:=by
 intro fuel listed a w d e c f n j;have g:l.length=ps.length+l2.length:=by grind
 refine zlw hl ok hy hal hst (λlisted=>∀i∈L0,listed.getD i M=U) (λlisted i q d h k r=>?_) (λm listed a w _ s _ _ _ _⟨i,t,_,p⟩_=>?_) hend fuel listed a w d e c f n j;·rw[zaL _ _ _ _<|by omega];grind
 grind
theorem R.drew {C bs s a w}(h:R C bs s a w):R C bs s a {w with drawn:=w.drawn+1}:=by
 have b:Fr zg w {w with drawn:=w.drawn+1}:=⟨rfl,rfl,rfl,yk _,λ_ _ _=>rfl,λ_=>Nat.le_succ _⟩;exact h.put b Y rfl (v:=.junk) (u:=Go.undef)<|by grind[V.rep]
def zlE (P:Program)(H:List Blk)(al:List Ev)(T:List<|Nat×V):St:=⟨zwy (zwD al) H.length T,H++zhE P al⟩
theorem Wk.zwy {n T T'}(h:Wk n T T'):∀(al)(m),Wk n (Go.Proofs.YtipkniadbkndfaaGreatDoor.zwy al m T)<|Go.Proofs.YtipkniadbkndfaaGreatDoor.zwy al m T':=by
 intro al;induction al generalizing T T' with
 |nil=>intro m;exact h|cons p al ih=>intro m;obtain⟨r,a⟩:=p;exact ih (h.putT (O r)<|.loc m 0)<|m+1
theorem TriL.wk {P C ops rest Q H T T'}(hw:Wk C.n T T')(h:TriL P C ops rest Q ⟨T',H⟩):TriL P C ops rest Q ⟨T,H⟩:=by
 refine⟨λd a w b=>h.run d a w ⟨b.own,b.len,b.blk,λt v e=>?_,b.defers,b.size,b.fr,b.new,b.gh⟩⟩;rcases hw t v e with c|⟨rfl,c⟩;·exact b.tmp t v c
 grind[V.rep]
theorem Tri.draw {P C Q s id l}(n)(hm:P.follows .mixedOrders=U)(hok:regOK l n=U)(hal:(zfW (l.take n)&&zeI (l.take n))=U)(h:TriQ P C.n l.toArray s.H (l.take n) [] s.T λal T=>TriL P C l.toArray (l.drop n) Q<|zlE P s.H al T):Tri P C (.region id l.toArray U) Q s:=by
 rw[yc]at hal;refine⟨λbs a w hR=>?_⟩;obtain⟨xd,ok⟩:=zlY hok;obtain⟨qs,hq1,hq2,T',hK,hq3⟩:=zu6.path (T0:=s.T) (l.take n) [] s.T [] (λ_=>rfl) h.run;simp only[yN,ul,ug]at hq2 hq3 hK;have hlen:qs.length=min n l.length:=by have:=congrArg xh hq1;grind
 have ok':zx1 l qs.length xd []:=by refine⟨ok.mask,ok.back,ok.pair,λi j oj hij hn hj=>?_⟩;have:=(yd.1 hj).1;exact(ok.late i j oj hij (by omega) hj).imp (λh=>h) λh=>by simp at h
 have hl:l=qs.map (·.1)++l.drop n:=by simp_all
 refine wp_region_any hm ?_;have hf:∀i,(xu l.toArray.size M).getD i M=false:=λi=>by simp only[y8,Array.getElem?_replicate];grind
 have hcnt:((xn qs.length).filter λi=>!(xu l.toArray.size M).getD i M)=xn qs.length:=by
  rw[List.filter_eq_self];grind
 have hend:TriL P C l.toArray (l.drop n) Q ⟨zwy (zwD<|zwf qs) s.H.length<|TL s.T qs (λ_=>U) qs.length,s.H++zhE P (zwf qs)⟩:=by exact TriL.wk (hq3.zwy _ _) hK
 have key:=ziP (P:=P) (C:=C) (bs:=bs) (H:=s.H) (T0:=s.T) (Q:=Q) (ps:=qs) (l2:=l.drop n) (xd:=xd) (l:=l) hl ok' (λi o v hi=>hq2 i o v hi) (by rw[hq1];exact hal.1) (by rw[hq1];grind) hend l.length (xu l.toArray.size M) a {w with drawn:=w.drawn+1} (by simp) (λi h=>by simp at h) (λi _=>hf i) (λj _ hj=>by rw[hf j]at hj;cases hj) (by rw[hcnt];simp only[uM,hlen,ub];omega) ?_;·exact key
 ·refine⟨λ_=>Y,?_,⟨λi b h=>(by cases h),λi o v t r _ _ _ h=>(by simp only[hf]at h;cases h),λi j b h=>(by cases h),λi b h=>by cases h⟩,λi b h=>by cases h⟩;obtain⟨T,H⟩:=s;have hR2:=hR.drew.zvP (A:=(C.plus λ_=>Y).A0) (Fr.refl zg _) (λb _ hb=>hb.elim (λh=>h) λ⟨i,h⟩=>by cases h) λb hb=>hb.elim (hR.drew.own.zu5 b) λ⟨i,h⟩=>(by cases h);refine hR2.weaken λt v hv=>?_;rw[<-hv];have:TL T qs (λk=>(xu l.toArray.size M).getD k M) qs.length=TL T qs (λk=>(xu l.toArray.size M).getD k M) 0:=by have:=zfF (T:=T) (ps:=qs) (p:=λk=>(xu l.toArray.size M).getD k M) (m:=0) (λi _=>hf i) qs.length;simpa using this
  rw[this];rfl
end
section
variable[zuV][Drw]
theorem zu6.toList {P C ops H l2 Q}:∀(l)(al)(T)(bs)(a)(w),(∀o∈l,zaq o=M)->zu6 P C.n ops H l al T (λ_ T=>TriL P C ops l2 Q ⟨T,H⟩)->R C bs ⟨T,H⟩ a w->wpList P ops (QR C Q) (l++l2) a w
 |[],al,T,bs,a,w,_,h,c=>by obtain⟨i,m,d⟩:=h;exact(TriL.wk m d).run bs a w c|o::l,al,T,bs,a,w,q,h,c=>by
  obtain⟨i,G,B,h⟩:=h;have b:R C bs ⟨i,H⟩ a w:=by
   refine⟨c.own,c.len,c.blk,λt v p=>?_,c.defers,c.size,c.fr,c.new,c.gh⟩;rcases G t v p with m|⟨rfl,m⟩;·exact c.tmp t v m
   grind[V.rep]
  have e:∀o∈l,zaq o=false:=λx A=>q x<|by grind
  have run:∀v,OpV P o (ev i) H v->zu6 P C.n ops H l al (putT i o.dst v) (λ_ T=>TriL P C ops l2 Q ⟨T,H⟩)->∀K,(∀a w,wpList P ops (QR C Q) (l++l2) a w->K a w)->o.wp P a w K (QR C Q):=by
   intro v p r K k;refine Oper.zv9 (p.run C.A0 bs w a.eval b.mem (λx _ y A=>b.ev A) (λ_=>rfl) λ_=>rfl) λu L⟨s,I⟩=>?_;have:=b.put s o.dst B I;rw[St.put_eq]at this;exact k _ _<|zu6.toList l al _ bs _ _ e r this
  have E:zu6 P C.n ops H l al (putT i o.dst .undef) (λ_ T=>TriL P C ops l2 Q ⟨T,H⟩)->wpList P ops (QR C Q) (l++l2) (a.put o.dst Go.undef) w:=by intro r;have:=b.put (Fr.refl _ _) o.dst B (v:=.undef) (u:=Go.undef)<|zt.2 rfl;rw[St.put_eq]at this;exact zu6.toList l al _ bs _ _ e r this
  simp only[uu];cases n:o.guard with
  |none=>grind[wpList_plain,zaq]|some jw=>
   obtain⟨j,f⟩:=jw;rw[n]at h;obtain⟨_,g,z,h⟩:=h;rcases h with⟨d,F⟩|⟨d,F⟩|⟨d,v,F,xf⟩
   ·refine wpList_step λK k=>?_;rw[if_neg<|by simp[wg,n,b.yielded z d,zjt,Go.undef]];simp_all
   ·refine wpList_step λK k=>?_;rw[if_neg<|by cases f<;>simp[wg,n,b.yielded z d,zjt]];simp_all
   ·refine wpList_step λK k=>?_;rw[if_pos<|by simp[wg,n,b.yielded z d,zjt]];grind
def zoI (l:List Oper):Bool:=l.all λo=>!zaq o
theorem Tri.plain {P}{C}{Q}{s}{id}{l:List Oper}(n)(hna:zoI (l.take n)=U)(h:TriQ P C.n l.toArray s.H (l.take n) [] s.T λ_ T=>TriL P C l.toArray (l.drop n) Q ⟨T,s.H⟩):Tri P C (.region id l.toArray M) Q s:=by
 refine⟨λe a w d=>?_⟩;have f:=(uA n l).symm;have b:∀o∈l.take n,zaq o=false:=λo c=>by
  have:=(yq.1 hna) o c;grind
 have:=zu6.toList (l.take n) [] s.T e a w b h.run d;grind[wp_region_lit]
theorem TriL.step {P C ops o rest Q s s'}(hg:o.guard=Y)(h:∀bs a w,R C bs s a w->∃n w' bs',(execOp a.eval o).run P w=.ok n w'/\((∃u,n=.value u/\R C bs' s' (a.put o.dst u) w')\/n=.skip/\R C bs' s' (a.put o.dst Go.undef) w'))(k:TriL P C ops rest Q s'):TriL P C ops (o::rest) Q s:=by
 refine⟨λbs a w d=>wpList_plain hg λK c=>?_⟩;obtain⟨n,w',bs',e,h⟩:=h bs a w d;unfold vo;rw[e];rcases h with⟨u,rfl,b⟩|⟨rfl,b⟩;·exact c _ _<|k.run bs' _ _ b
 ·exact c _ _<|k.run bs' _ _ b
def Blk.under (n:Nat):Blk->Bool|.box _ cs=>V.zw3 n cs|.it j _ _ _=>xA j n|_=>U
mutual
theorem V.zyF {A A' w bs bs' H H' n}(hb:∀i,i<n->bs'[i]?=bs[i]?)(hH:∀i,i<n->H'[i]?=H[i]?)(hA:∀b,b<w.heap.size->A' b->A b):∀(x:V)(v:Value),x.under n=U->V.rep A w bs H x v->V.rep A' w bs' H' x v
 |.d x,v,_,hv=>by simp only[V.rep]at hv|-;exact D.zvU (Fr.refl zg w) (λ_ x=>x.elim) hA x v hv|.loc i off,v,hn,hv=>by simp only[V.under,uG]at hn;simp only[V.rep]at hv|-;rw[hH i hn,hb i hn];exact hv|.vec i m,v,hn,hv=>by
  simp only[V.under,uG]at hn;simp only[V.rep]at hv|-;rw[hH i hn];split at hv;·rename_i t k xs he;refine⟨hv.1,λhm=>?_⟩;obtain⟨cells,h1,h2,h3⟩:=hv.2 hm;exact⟨cells,h1,by rw[hb i hn];exact h2,D.zve (Fr.refl zg w) (λ_ x=>x.elim) hA xs cells h3⟩
  ·trivial
  ·exact hv.elim|.el i m j off,v,hn,hv=>by
  simp only[V.under,uG]at hn;simp only[V.rep]at hv|-;rw[hH i hn];split at hv;·rename_i t k xs he;refine⟨hv.1,λhm=>?_⟩;obtain⟨hdr,cells,h1,h2,h3,h4⟩:=hv.2 hm;exact⟨hdr,cells,h1,by rw[hb i hn];exact h2,D.zve (Fr.refl zg w) (λ_ x=>x.elim) hA xs cells h3,h4⟩
  ·trivial
  ·exact hv.elim|.sub i m lo hi,v,hn,hv=>by
  simp only[V.under,uG]at hn;simp only[V.rep]at hv|-;rw[hH i hn];split at hv;·rename_i t k xs he;refine⟨hv.1,λhm=>?_⟩;obtain⟨hdr,cells,h1,h2,h3,h4⟩:=hv.2 hm;exact⟨hdr,cells,h1,by rw[hb i hn];exact h2,D.zve (Fr.refl zg w) (λ_ x=>x.elim) hA xs cells h3,h4⟩
  ·trivial
  ·exact hv.elim|.arr i off m,v,hn,hv=>by
  simp only[V.under,uG]at hn;simp only[V.rep]at hv|-;rw[hH i hn];split at hv;·rw[hb i hn];exact hv
  ·trivial
  ·exact hv.elim|.agg cs,v,hn,hv=>by simp only[V.under]at hn;simp only[V.rep]at hv|-;obtain⟨vs,e,hr⟩:=hv;exact⟨vs,e,V.zwW hb hH hA cs _ hn hr⟩|.tup cs,v,hn,hv=>by simp only[V.under]at hn;simp only[V.rep]at hv|-;obtain⟨vs,e,hr⟩:=hv;exact⟨vs,e,V.zwW hb hH hA cs _ hn hr⟩|.fn f fs cs,v,hn,hv=>by simp only[V.under,yc]at hn;simp only[V.rep]at hv|-;obtain⟨vs,us,e,h1,h2⟩:=hv;exact⟨vs,us,e,V.zwW hb hH hA fs _ hn.1 h1,V.zwW hb hH hA cs _ hn.2 h2⟩|.mp i,v,hn,hv=>by simp only[V.under,uG]at hn;simp only[V.rep]at hv|-;rw[hH i hn,hb i hn];exact hv|.itp i,v,hn,hv=>by simp only[V.under,uG]at hn;simp only[V.rep]at hv|-;rw[hH i hn,hb i hn];exact hv|.que i m,v,hn,hv=>by
  simp only[V.under,uG]at hn;simp only[V.rep]at hv|-;rw[hH i hn,hb i hn];split at hv;·refine⟨hv.1,λhm=>?_⟩;obtain⟨b,o,cap,h1,h2,h3⟩:=hv.2 hm;exact⟨b,o,cap,h1,h2,h3.fr (Fr.refl zg w) (λx=>x) (λ_ x=>x.elim) hA⟩
  ·trivial
  ·exact hv.elim|.qel i m j,v,hn,hv=>by
  simp only[V.under,uG]at hn;simp only[V.rep]at hv|-;rw[hH i hn,hb i hn];split at hv;·refine⟨hv.1,λhm=>?_⟩;obtain⟨b,o,cap,h1,h2,hj,h3⟩:=hv.2 hm;exact⟨b,o,cap,h1,h2,hj,h3.fr (Fr.refl zg w) (λx=>x) (λ_ x=>x.elim) hA⟩
  ·trivial
  ·exact hv.elim|.junk,_,_,_=>by simp only[V.rep]
theorem V.zwW {A A' w bs bs' H H' n}(hb:∀i,i<n->bs'[i]?=bs[i]?)(hH:∀i,i<n->H'[i]?=H[i]?)(hA:∀b,b<w.heap.size->A' b->A b):∀(xs:List V)(vs:List Value),V.zw3 n xs=U->V.reps A w bs H xs vs->V.reps A' w bs' H' xs vs|[],vs,_,hv=>by simpa only[V.reps]using hv|x::xs,vs,hn,hv=>by simp only[V.zw3,yc]at hn;simp only[V.reps]at hv|-;obtain⟨v,vs',e,h1,h2⟩:=hv;exact⟨v,vs',e,V.zyF hb hH hA x v hn.1 h1,V.zwW hb hH hA xs vs' hn.2 h2⟩
end
def St.ge (s t:St):Prop:=∃X,s.H=t.H++X/\t.H.all (Blk.under t.H.length)=U/\(t.T.all λp=>p.2.under t.H.length)=U/\Sub t.T s.T
theorem R.ge {C bs s t a w}(h:R C bs s a w)(hl:s.ge t)(hgn:xQ C.gn t.H.length=U):∃bs',R C bs' t a w:=by
 obtain⟨T,H⟩:=t;obtain⟨X,hX,h1,h2,h3⟩:=hl;simp only at hX h1 h2 h3;have hlen:=h.len;have hHl:H.length<=bs.length:=by rw[hlen,hX];simp
 have hb:∀i,i<H.length->(bs.take H.length)[i]?=bs[i]?:=λi hi=>by rw[List.getElem?_take,if_pos hi]
 have hH:∀i,i<H.length->H[i]?=s.H[i]?:=λi hi=>by rw[hX,yi hi]
 have hsub:∀b,O b∈bs.take H.length->O b∈bs:=λb hb=>ws hb;have hA:∀b,b<w.heap.size->Own C.A0 (bs.take H.length) b->Own C.A0 bs b:=λb _ hb'=>hb'.imp id<|hsub b;have hlt:∀{i:Nat}{x:Option Nat},(bs.take H.length)[i]?=O x->bs[i]?=O x:=by intro i x hx;have:=(yd.1 hx).1;simp only[ui]at this;rw[hb i<|by omega]at hx;exact hx
 refine⟨bs.take H.length,⟨λi j b hi hj=>h.own.apart i j b (hlt hi)<|hlt hj,λb hb=>h.own.not b<|hsub b hb,λb hb=>h.own.lt b<|hsub b hb,h.own.zu5,h.own.glob.fr (Fr.refl zg w) (λ_ x=>x.elim) hA⟩,by simp_all,λi k hk=>?_,λu v hv=>?_,h.defers,h.size,h.fr,λb hb=>h.new b<|hsub b hb,λp hp=>⟨(h.gh p hp).1,V.zyF (λi hi=>hb i<|yD hi<|yt hgn) (λi hi=>hH i<|yD hi<|yt hgn) hA p.1 _ (h.gh p hp).1 (h.gh p hp).2⟩⟩
 ·simp only at hk|-;have hi:=(yd.1 hk).1;have hk2:s.H[i]?=O k:=by rw[<-hH i hi];exact hk
  have hx:=h.blk i k hk2;have hbk:k.under H.length=true:=(yq.1 h1) k<|yC hk;cases k with
  |box t cs=>simp only[Blk.rep]at hx|-;simp only[Blk.under]at hbk;obtain⟨b,vs,e1,e2,e3⟩:=hx;exact⟨b,vs,by rw[hb i hi];exact e1,e2,V.zwW hb hH hA cs _ hbk e3⟩|arr t k xs=>simp only[Blk.rep]at hx|-;obtain⟨b,vs,e1,e2,e3⟩:=hx;exact⟨b,vs,by grind,e2,D.zve (Fr.refl zg w) (λ_ x=>x.elim) hA xs _ e3⟩|mp bo ks ds clock=>simp only[Blk.rep]at hx|-;obtain⟨b,es,e1,e2,e3,e4,e5⟩:=hx;exact⟨b,es,by grind,e2,e3,e4,D.zvs (Fr.refl zg w) (λ_ x=>x.elim) hA ds _ e5⟩|it j since seen last=>simp only[Blk.under,uG]at hbk;simp only[Blk.rep]at hx|-;rw[hH j hbk,hb i hi,hb j hbk];exact hx|itd bo ks ds clock since seen last=>simp only[Blk.rep]at hx|-;obtain⟨b,mb,es,e1,e2,e3,e4,e5,e6,e7,e8⟩:=hx;exact⟨b,mb,es,by grind,λe=>e2<|hA mb e3 e,e3,e4,e5,e6,D.zvs (Fr.refl zg w) (λ_ x=>x.elim) hA ds _ e7,e8⟩|vec t k xs=>trivial|que s t k xs=>trivial|dead=>trivial
 ·simp only at hv|-;have h4:=h.tmp u v<|h3.look u v hv;have hmem:∀(L:List<|Nat×V),look u L=O v->(L.all λp=>p.2.under H.length)=U->v.under H.length=true:=by
   intro L;induction L with
   |nil=>grind[look]|cons p L ih=>
    intro h5 h6;obtain⟨c,x⟩:=p;simp only[uk,yc]at h6;grind[zbn]
  grind[V.zyF]
theorem Tri.ge {P C Q s t c}(hl:s.ge t)(h:Tri P C c Q t)(hgn:xQ C.gn t.H.length=true:=by exact rfl):Tri P C c Q s:=⟨λ_ a w e=>let⟨d,b⟩:=e.ge hl hgn;h.run d a w b⟩
inductive Looks (T:List<|Nat×V):List Nat->List (Nat×V)->Prop|nil:Looks T [] []|cons{k:Nat}{v:V}{ks:List Nat}{K:List<|Nat×V}:look k T=O v->Looks T ks K->Looks T (k::ks) ((k,v)::K)
theorem Looks.sub {T}:∀{ks}{K},Looks T ks K->Sub K T|_,_,.nil=>trivial|_,_,.cons h r=>⟨h,r.sub⟩
end
section
variable[zuV][Drw]
theorem D.zxE {A w b k}:∀(xs)(off),D.row A w b k xs off->∃cs,D.flat A w k xs cs/\∀j u,cs[j]?=O u->w.cell? ⟨b,off+j,Y⟩=O u
 |[],off,_=>⟨[],by simp[D.flat],by simp⟩|x::xs,off,h=>by
  obtain⟨⟨u,f,a,e⟩,c⟩:=h;obtain⟨cs,g,i⟩:=D.zxE xs (off+k) c;refine⟨u.cells.toList++cs,by simp only[D.flat];grind,λj v l=>?_⟩;by_cases d:j<k
  ·have:=a j<|by omega
   grind
  grind
theorem D.zwR {A w k}:∀{xs}{cs},(∀x∈xs,x.ones=U)->D.flat A w k xs cs->∀c∈cs,c.oneCell'=U
 |[],cs,_,h=>by grind[D.flat]|x::xs,cs,f,h=>by
  obtain⟨u,d,rfl,_,g,e⟩:=h;intro c a;rcases yu.1 a with a|a;·grind[D.zwU]
  ·exact D.zwR (λy b=>f y<|by simp[b]) e c a
def Compat (A A':Nat->Prop)(w w':World):Blk->Option Nat->Blk->Option Nat->Prop|.box _ _,c,.box _ _,c'=>c'=c|.vec t k xs,c,.vec t' k' ys,c'=>xs.length<ys.length\/ys.length=xs.length/\k'=k/\c'=c/\∀v cells,w.ownsRow 0 t k v xs.length cells->c=v.ownBlock->D.flat A w k xs cells->∃cells',w'.ownsRow 0 t' k' v xs.length cells'/\D.flat A' w' k' ys cells'|.arr _ k xs,c,.arr _ k' ys,c'=>c'=c/\k'=k/\ys.length=xs.length|.mp _ _ _ _,c,.mp _ _ _ _,c'=>c'=c|.it _ _ _ _,c,.it _ _ _ _,c'=>c'=c|.que s _ _ _,_,.que s' _ _ _,_=>s<s'|.itd _ _ _ _ _ _ _,c,.itd _ _ _ _ _ _ _,c'=>c'=c|_,_,.dead,_=>True|_,_,_,_=>False
section
variable{A A':Nat->Prop}{w w':World}{bs:List<|Option Nat}{H:List Blk}{i:Nat}{x y:Blk}{c c':Option Nat}{W:Nat->Prop}
mutual
theorem V.zyG (hi:H[i]?=O x)(hc:bs[i]?=O c)(hcomp:Compat A A' w w' x c y c')(hap:∀(p q:Nat)(b:Nat),bs[p]?=O (O b)->bs[q]?=O (O b)->p=q)(hfr:Fr W w w')(hWA:∀b,W b->A b)(hW:∀b,W b->c=O b)(hA:∀b,b<w.heap.size->A' b->A b):∀(z:V)(v:Value),V.rep A w bs H z v->V.rep A' w' (bs.set i c') (H.set i y) z v
 |.d z,v,hv=>by simp only[V.rep]at hv|-;exact D.zvU hfr hWA hA z v hv|.loc j off,v,hv=>by
  simp only[V.rep]at hv|-;by_cases hij:i=j
  ·subst hij;rw[yy (yd.1 hi).1];rw[hi]at hv;cases x<;>cases y<;>simp only[Compat]at hcomp hv|-;rw[yy (yd.1 hc).1,hcomp,<-hc];exact hv
  ·rw[yx hij,yx hij];exact hv|.vec j n,v,hv=>by
  simp only[V.rep]at hv|-;by_cases hij:i=j
  ·subst hij;rw[yy (yd.1 hi).1];rw[hi]at hv;cases x<;>cases y<;>simp only[Compat]at hcomp hv|-;rcases hcomp with hcomp|⟨e1,e2,e3,e4⟩;·exact⟨by omega,λh=>by omega⟩
   ·refine⟨by omega,λhn=>?_⟩;rw[e1]at hn;obtain⟨cells,h1,h2,h3⟩:=hv.2 hn;subst hn;have hcc:c=v.ownBlock:=by rw[hc]at h2;simpa using h2
    obtain⟨cells',g1,g2⟩:=e4 v cells h1 hcc h3;exact⟨cells',g1,by rw[yy (yd.1 hc).1,e3,hcc],g2⟩
  ·rw[yx hij];split at hv;·rename_i t k xs he;refine⟨hv.1,λhn=>?_⟩;obtain⟨cells,h1,h2,h3⟩:=hv.2 hn;have hg:w.grownBy w' c:=⟨hfr.os,hfr.tape,hfr.output,hfr.size,λb hb hne=>hfr.block b hb λh=>hne (hW b h).symm⟩;refine⟨cells,h1.kept hg ?_,by rw[yx hij];exact h2,D.zve hfr hWA hA xs cells h3⟩;cases hob:v.ownBlock with
    |none=>exact .inl rfl|some b=>right;intro h;rw[hob]at h2;exact hij<|hap i j b (by rw[hc,<-h]) h2
   ·trivial
   ·exact hv.elim|.el j n q off,v,hv=>by
  simp only[V.rep]at hv|-;by_cases hij:i=j
  ·subst hij;rw[yy (yd.1 hi).1];rw[hi]at hv;cases x<;>cases y<;>simp only[Compat]at hcomp hv|-;rcases hcomp with hcomp|⟨e1,e2,e3,e4⟩;·exact⟨by omega,λh=>by omega⟩
   ·refine⟨by omega,λhn=>?_⟩;rw[e1]at hn;obtain⟨hdr,cells,h1,h2,h3,h4⟩:=hv.2 hn;subst hn;have hcc:c=hdr.ownBlock:=by rw[hc]at h2;simpa using h2
    obtain⟨cells',g1,g2⟩:=e4 hdr cells h1 hcc h3;exact⟨hdr,cells',g1,by rw[yy (yd.1 hc).1,e3,hcc],g2,by rw[e2];exact h4⟩
  ·rw[yx hij];split at hv
   ·rename_i t k xs he;refine⟨hv.1,λhn=>?_⟩;obtain⟨hdr,cells,h1,h2,h3,h4⟩:=hv.2 hn;have hg:w.grownBy w' c:=⟨hfr.os,hfr.tape,hfr.output,hfr.size,λb hb hne=>hfr.block b hb λh=>hne (hW b h).symm⟩;refine⟨hdr,cells,h1.kept hg ?_,by rw[yx hij];exact h2,D.zve hfr hWA hA xs cells h3,h4⟩;cases hob:hdr.ownBlock with
    |none=>exact .inl rfl|some b=>right;intro h;rw[hob]at h2;exact hij<|hap i j b (by rw[hc,<-h]) h2
   ·trivial
   ·exact hv.elim|.sub j n lo hh,v,hv=>by
  simp only[V.rep]at hv|-;by_cases hij:i=j
  ·subst hij;rw[yy (yd.1 hi).1];rw[hi]at hv;cases x<;>cases y<;>simp only[Compat]at hcomp hv|-;rcases hcomp with hcomp|⟨e1,e2,e3,e4⟩;·exact⟨by omega,λh=>by omega⟩
   ·refine⟨by omega,λhn=>?_⟩;rw[e1]at hn;obtain⟨hdr,cells,h1,h2,h3,h4⟩:=hv.2 hn;subst hn;have hcc:c=hdr.ownBlock:=by rw[hc]at h2;simpa using h2
    obtain⟨cells',g1,g2⟩:=e4 hdr cells h1 hcc h3;exact⟨hdr,cells',g1,by rw[yy (yd.1 hc).1,e3,hcc],g2,by rw[e2];exact h4⟩
  ·rw[yx hij];split at hv
   ·rename_i t k xs he;refine⟨hv.1,λhn=>?_⟩;obtain⟨hdr,cells,h1,h2,h3,h4⟩:=hv.2 hn;have hg:w.grownBy w' c:=⟨hfr.os,hfr.tape,hfr.output,hfr.size,λb hb hne=>hfr.block b hb λh=>hne (hW b h).symm⟩;refine⟨hdr,cells,h1.kept hg ?_,by rw[yx hij];exact h2,D.zve hfr hWA hA xs cells h3,h4⟩;cases hob:hdr.ownBlock with
    |none=>exact .inl rfl|some b=>right;intro h;rw[hob]at h2;exact hij<|hap i j b (by rw[hc,<-h]) h2
   ·trivial
   ·exact hv.elim|.arr j off n,v,hv=>by
  simp only[V.rep]at hv|-;by_cases hij:i=j
  ·subst hij;rw[yy (yd.1 hi).1];rw[hi]at hv;cases x<;>cases y<;>simp only[Compat]at hcomp hv|-;obtain⟨e1,e2,e3⟩:=hcomp;rw[yy (yd.1 hc).1,e1,e2,e3,<-hc];exact hv
  ·rw[yx hij,yx hij];exact hv|.agg cs,v,hv=>by simp only[V.rep]at hv|-;obtain⟨vs,e,hr⟩:=hv;exact⟨vs,e,V.zwm hi hc hcomp hap hfr hWA hW hA cs _ hr⟩|.tup cs,v,hv=>by simp only[V.rep]at hv|-;obtain⟨vs,e,hr⟩:=hv;exact⟨vs,e,V.zwm hi hc hcomp hap hfr hWA hW hA cs _ hr⟩|.fn f fs cs,v,hv=>by simp only[V.rep]at hv|-;obtain⟨vs,us,e,h1,h2⟩:=hv;exact⟨vs,us,e,V.zwm hi hc hcomp hap hfr hWA hW hA fs _ h1,V.zwm hi hc hcomp hap hfr hWA hW hA cs _ h2⟩|.mp j,v,hv=>by
  simp only[V.rep]at hv|-;by_cases hij:i=j;·subst hij;rw[yy (yd.1 hi).1];rw[hi]at hv;cases x<;>cases y<;>simp only[Compat]at hcomp hv|-;rw[yy (yd.1 hc).1,hcomp,<-hc];exact hv
  ·rw[yx hij,yx hij];exact hv|.itp j,v,hv=>by
  simp only[V.rep]at hv|-;by_cases hij:i=j
  ·subst hij;rw[yy (yd.1 hi).1];rw[hi]at hv;cases x<;>cases y<;>simp only[Compat]at hcomp hv|-;all_goals rw[yy (yd.1 hc).1,hcomp,<-hc];exact hv
  ·rw[yx hij,yx hij];exact hv|.que j m,v,hv=>by
  simp only[V.rep]at hv|-;by_cases hij:i=j
  ·subst hij;rw[yy (yd.1 hi).1];rw[hi]at hv;cases x<;>cases y<;>simp only[Compat]at hcomp hv|-;exact⟨by omega,λh=>by omega⟩
  ·rw[yx hij,yx hij];split at hv;·refine⟨hv.1,λhn=>?_⟩;obtain⟨b,o,cap,h1,h2,h3⟩:=hv.2 hn;exact⟨b,o,cap,h1,h2,h3.fr hfr (λe=>hij<|hap i j b (by rw[hc,hW b e]) h1) hWA hA⟩
   ·trivial
   ·exact hv.elim|.qel j m q,v,hv=>by
  simp only[V.rep]at hv|-;by_cases hij:i=j;·subst hij;rw[yy (yd.1 hi).1];rw[hi]at hv;cases x<;>cases y<;>simp only[Compat]at hcomp hv|-;exact⟨by omega,λh=>by omega⟩
  ·rw[yx hij,yx hij];split at hv;·refine⟨hv.1,λhn=>?_⟩;obtain⟨b,o,cap,h1,h2,hq,h3⟩:=hv.2 hn;exact⟨b,o,cap,h1,h2,hq,h3.fr hfr (λe=>hij<|hap i j b (by rw[hc,hW b e]) h1) hWA hA⟩
   ·trivial
   ·exact hv.elim|.junk,_,_=>by simp only[V.rep]
theorem V.zwm (hi:H[i]?=O x)(hc:bs[i]?=O c)(hcomp:Compat A A' w w' x c y c')(hap:∀(p q:Nat)(b:Nat),bs[p]?=O (O b)->bs[q]?=O (O b)->p=q)(hfr:Fr W w w')(hWA:∀b,W b->A b)(hW:∀b,W b->c=O b)(hA:∀b,b<w.heap.size->A' b->A b):∀(zs:List V)(vs:List Value),V.reps A w bs H zs vs->V.reps A' w' (bs.set i c') (H.set i y) zs vs|[],vs,hv=>by simpa only[V.reps]using hv|z::zs,vs,hv=>by simp only[V.reps]at hv|-;obtain⟨v,vs',e,h1,h2⟩:=hv;exact⟨v,vs',e,V.zyG hi hc hcomp hap hfr hWA hW hA z v h1,V.zwm hi hc hcomp hap hfr hWA hW hA zs vs' h2⟩
end
end
theorem R.upd {C bs T H a w w' i x y c c'}(h:R C bs ⟨T,H⟩ a w)(hi:H[i]?=O x)(hc:bs[i]?=O c)(hcomp:Compat (Own C.A0 bs) (Own C.A0<|bs.set i c') w w' x c y c')(hfr:Fr (λb=>c=O b) w w')(hc':c'=c\/c'=Y\/∃b,c'=O b/\w.heap.size<=b/\b<w'.heap.size)(hy:y.rep (Own C.A0<|bs.set i c') w' (bs.set i c') (H.set i y) i):R C (bs.set i c') ⟨T,H.set i y⟩ a w':=by
 have hib:=(yd.1 hc).1;have hmem:∀b,O b∈bs.set i c'->O b∈bs\/c'=O b/\w.heap.size<=b/\b<w'.heap.size:=by grind
 have hA:∀b,b<w.heap.size->Own C.A0 (bs.set i c') b->Own C.A0 bs b:=λb hb hb'=>by
  rcases hb' with hb'|hb';·exact .inl hb'
  ·rcases hmem b hb' with h|⟨_,h,_⟩;·exact .inr h
   ·omega
 have hWA:∀b,c=O b->Own C.A0 bs b:=λb hb=>.inr<|by grind
 have hget:∀p b,(bs.set i c')[p]?=O (O b)->p≠i/\bs[p]?=O (O b)\/p=i/\c'=O b:=by grind
 have hci:∀b,c'=O b->bs[i]?=O (O b)\/w.heap.size<=b:=by grind
 refine⟨⟨λp q b hp hq=>?_,λb hb=>?_,λb hb=>?_,λb hb=>yD (h.own.zu5 b hb) hfr.size,h.own.glob.fr hfr hWA hA⟩,by simpa using h.len,λj k hk=>?_,λt v hv=>⟨(h.tmp t v hv).1,V.zyG hi hc hcomp h.own.apart hfr hWA (λb hb=>hb) hA v _ (h.tmp t v hv).2⟩,h.defers,h.size,?_,λb hb=>?_,λp hp=>⟨(h.gh p hp).1,V.zyG hi hc hcomp h.own.apart hfr hWA (λb hb=>hb) hA p.1 _ (h.gh p hp).2⟩⟩
 ·rcases hget p b hp with⟨p1,p2⟩|⟨p1,p2⟩<;>rcases hget q b hq with⟨q1,q2⟩|⟨q1,q2⟩;·exact h.own.apart p q b p2 q2
  ·rcases hci b q2 with e|e;·exact absurd (h.own.apart p i b p2 e) p1
   ·have:=h.own.lt b<|yC p2;omega
  ·rcases hci b p2 with e|e;·exact absurd (h.own.apart q i b q2 e) q1
   ·have:=h.own.lt b<|yC q2;omega
  simp_all
 ·rcases hmem b hb with h1|⟨_,h1,_⟩;·exact h.own.not b h1
  ·exactλh2=>absurd (h.own.zu5 b h2)<|by omega
 ·rcases hmem b hb with h1|⟨_,_,h1⟩;·exact yD (h.own.lt b h1) hfr.size
  ·exact h1
 ·simp only at hk;by_cases hij:i=j;·subst hij;rw[yy (yd.1 hi).1]at hk;cases hk;exact hy
  ·rw[yx hij]at hk;have hx:=h.blk j k hk;have hne:∀b,bs[j]?=O (O b)->¬c=O b:=λb hb e=>hij<|h.own.apart i j b (by rw[hc,e]) hb;cases k with
   |box t cs=>simp only[Blk.rep]at hx|-;obtain⟨b,vs,e1,e2,e3⟩:=hx;exact⟨b,vs,by rw[yx hij];exact e1,by rw[hfr.block b (yn.1 e2).1<|hne b e1];exact e2,V.zwm hi hc hcomp h.own.apart hfr hWA (λb hb=>hb) hA cs _ e3⟩|arr t k xs=>simp only[Blk.rep]at hx|-;obtain⟨b,vs,e1,e2,e3⟩:=hx;exact⟨b,vs,by rw[yx hij];exact e1,by rw[hfr.block b (yn.1 e2).1<|hne b e1];exact e2,D.zve hfr hWA hA xs _ e3⟩|mp bo ks ds clock=>simp only[Blk.rep]at hx|-;obtain⟨b,es,e1,e2,e3,e4,e5⟩:=hx;exact⟨b,es,by rw[yx hij];exact e1,by rw[hfr.block b (yn.1 e2).1<|hne b e1];exact e2,e3,e4,D.zvs hfr hWA hA ds _ e5⟩|it q since seen last=>
    simp only[Blk.rep]at hx|-;by_cases hiq:i=q;·subst hiq;rw[yy (yd.1 hi).1,yx hij];rw[hi]at hx;cases x<;>cases y<;>simp only[Compat]at hcomp hx|-;obtain⟨b,m,e1,e2,e3⟩:=hx;exact⟨b,m,e1,by rw[yy hib,hcomp,<-hc];exact e2,by rw[hfr.block b (yn.1 e3).1<|hne b e1];exact e3⟩
    ·rw[yx hiq,yx hij,yx hiq];split at hx;·rename_i he;obtain⟨b,m,e1,e2,e3⟩:=hx;exact⟨b,m,e1,e2,by rw[hfr.block b (yn.1 e3).1<|hne b e1];exact e3⟩
     ·trivial
     ·exact hx.elim|itd bo ks ds clock since seen last=>simp only[Blk.rep]at hx|-;obtain⟨b,mb,es,e1,e2,e3,e4,e5,e6,e7,e8⟩:=hx;exact⟨b,mb,es,by rw[yx hij];exact e1,λe=>e2<|hA mb e3 e,yD e3 hfr.size,by rw[hfr.block mb e3 λe=>e2<|hWA mb e];exact e4,e5,e6,D.zvs hfr hWA hA ds _ e7,by rw[hfr.block b (yn.1 e8).1<|hne b e1];exact e8⟩|vec t k xs=>trivial|que s t k xs=>trivial|dead=>trivial
 ·refine⟨hfr.os.trans h.fr.os,hfr.tape.trans h.fr.tape,hfr.output.trans h.fr.output,yI h.fr.size hfr.size,λb hb hno=>?_,λd=>yI (h.fr.drawn d)<|hfr.drawn d⟩;have hbw:=yD hb h.fr.size;refine(hfr.block b hbw λe=>?_).trans<|h.fr.block b hb hno;rcases h.new b<|by rw[<-e];exact yC hc with h1|h1;·exact hno h1
  ·omega
 ·rcases hmem b hb with h1|⟨_,h1,_⟩;·exact h.new b h1
  ·right;have:=h.fr.size;omega
def zcc (P:Program)(t el:TypeId)(k bytes:Nat):Bool:=(match P.underlying t with|some<|.slice e=>e==el|_=>M)&&xA 0 k&&match P.info? el with|some i=>i.size==k&&i.bytes==bytes&&(match i.zero with|some z=>z.cells.size==k|none=>M)|none=>M
theorem zbN {P t el k bytes}(h:zcc P t el k bytes=U):P.underlying t=O (.slice el)/\0<k/\∃i z,P.info? el=O i/\i.zero=O z/\i.size=k/\i.bytes=bytes/\z.cells.size=k:=by
 unfold zcc at h;simp only[yc]at h;refine⟨?_,by simp_all,?_⟩;·grind
 grind
theorem zjY {P}(w t ty e)(i)(z size bytes)(ht:P.underlying t=O (.slice e))(hi:P.info? e=O i)(hz:i.zero=O z)(hsize:i.size=size)(hby:i.bytes=bytes)(hzs:z.cells.size=size)(_hsz:0<size)(v)(n)(xs)(hown:w.ownsRow 0 e size v n xs)(a)(m c)(news)(hl:news.length=m*size)(hnews:∀j u,news[j]?=O u->w.cell? (a.add j)=O u)(h1:∀u∈news,u.oneCell'=U)(hm0:0<m)(h63:n+m<=maxLen)(hbytes:(n+m)*bytes<=140737488355328):∃v' w',(Builtin.append_ #[t,t] ty #[v,.slice (O a) m c]).run P w=.ok v' w'/\w'.ownsRow 0 e size v' (n+m) (xs++news)/\w.grownBy w' v.ownBlock/\(v'.ownBlock=v.ownBlock\/v'.ownBlock=O w.heap.size)/\w.drawn<=w'.drawn:=by
 subst hsize;subst hby;have hsmall:n+m<=9223372036854775807:=by grind[maxLen]
 have hlen:(xs++news).length=(n+m)*i.size:=by rw[yT,hown.1,hl,vm]
 have grown:∀(old:Nat),old<n+m->∀(row:Option Nat),(w.drew.alloc<|.cells (xs.toArray++news.toArray++Builtin.zeroCells z.cells (grownCap w (n+m) old e-(n+m))) e).ownsRow 0 e i.size (.slice (O ⟨w.heap.size,0,Y⟩) (n+m)<|grownCap w (n+m) old e) (n+m) (xs++news)/\w.grownBy (w.drew.alloc<|.cells (xs.toArray++news.toArray++Builtin.zeroCells z.cells (grownCap w (n+m) old e-(n+m))) e) row:=by
  intro old ho row;have hge:=grownCap_ge w (n+m) old e;have hcm:grownCap w (n+m) old e<=maxLen:=grownCap_le_maxLen w (n+m) old e h63;refine⟨⟨hlen,.inr ⟨w.heap.size,_,_,rfl,ym _,heap_alloc_new w.drew _,hge,hcm,?_,?_⟩⟩,⟨rfl,rfl,rfl,by simp,λk hk _=>xE w.drew _ k hk⟩⟩
  ·simp only[Array.size_append,uK,size_zeroCells,hzs,hown.1,hl,<-vm];grind
  grind
 rcases hown.2 with⟨rfl,rfl⟩|⟨g,cap,cur,rfl,hbg,hg,hnc,hcm,hcs,htake⟩;·have hx:xs=[]:=yY (by grind);subst hx;have hr:=run_append_nil (P:=P) w t ty e i z ht hi hz a m c news hl hnews (by omega) (by omega) (by grind);have hgr:=grown 0 (by omega)<|xI<|.slice Y 0 0;simp only[ug,yN,Array.empty_append]at hgr|-;exact⟨_,_,hr,hgr.1,hgr.2,.inr rfl,Nat.le_succ _⟩
 ·by_cases hroom:n+m<=cap
  ·have hfit:n*i.size+news.length<=cur.size:=by rw[hl,hcs,<-vm];exact yH _ hroom
   have hr:=run_append_room (P:=P) w t ty e i ht hi g n cap cur hg a m c news hl hnews h1 hroom hfit;refine⟨_,_,hr,⟨hlen,.inr ⟨g,cap,_,rfl,hbg,setRow_heap w g cur _ e _ hg,hroom,hcm,?_,?_⟩⟩,⟨rfl,rfl,rfl,by simp,λk _ hk=>setRow_other w g k _ λe=>hk<|by simp[xI,e]⟩,.inl rfl,yk _⟩;·simp only[uK,yT,ui,ub,yE];omega
   ·rw[htake,<-hlen];exact List.take_left
  ·have holds:∀j u,xs[j]?=O u->w.cell? ((⟨g,0,Y⟩:Addr).add j)=O u:=hown.cells (g:=g) rfl;have hr:=run_append_grow (P:=P) w t ty e i z ht hi hz ⟨g,0,Y⟩ n cap xs hown.1 holds a m c news hl hnews (by omega) (by omega)<|growslice_fits (by omega) hbytes;have hgr:=grown cap (by omega)<|xI<|.slice (O ⟨g,0,Y⟩) n cap;exact⟨_,_,hr,hgr.1,hgr.2,.inr rfl,Nat.le_succ _⟩
theorem TriL.append {P}{C}{ops}{o:Oper}{rest}{Q}{T}{H}{x y}{t el}{i n k bytes d:Nat}{xs ys}(hg:o.guard=Y)(ho:o.op=.call {callee:=.builtin .append,args:=#[x,y],argTypes:=#[t,t]})(hd:o.dst=O d)(hdn:xA d C.n=U)(hx:ev T x=O (.vec i n))(hi:H[i]?=O (.vec el k xs))(hn:n=xs.length)(hy:ev T y=O (.d<|.sl k ys))(ht:zcc P t el k bytes=U)(hne:ys≠[])(hones:∀z∈ys,z.ones=U)(hsz:(xs.length+ys.length)*bytes<=140737488355328)(hml:xs.length+ys.length<=maxLen)(kk:TriL P C ops rest Q ⟨(d,.vec i<|xs.length+ys.length)::T,H.set i<|.vec el k<|xs++ys⟩):TriL P C ops (o::rest) Q ⟨T,H⟩:=by
 subst hn;obtain⟨htu,hk0,inf,z,hinf,hz,hisz,hib,hzc⟩:=zbN ht;refine TriL.step hg (λbs a w hR=>?_) kk;have hlt:d<a.tmps.size:=by rw[hR.size];simp_all
 have h1:=hR.ev hx;have h2:=hR.ev hy;simp only[V.rep,hi]at h1;obtain⟨_,h1⟩:=h1;obtain⟨cells,hown,hbs,hflat⟩:=h1 trivial;simp only[V.rep,D.rep]at h2;obtain⟨ad,cap,hv2,_,hrow⟩:=h2;rcases hrow with hrow|⟨b,off,rfl,hnb,hblt,hrow⟩;·grind
 ·obtain⟨news,hf2,hnews⟩:=D.zxE ys off hrow;obtain⟨v',w',hrun,hown',hgrow,hwhere,hdrawn⟩:=zjY (P:=P) w t o.type el inf z k bytes htu hinf hz hisz hib hzc hk0 (a.eval x) xs.length cells hown ⟨b,off,Y⟩ ys.length cap news (D.zwa hf2) (λj u hu=>by grind[vT]) (D.zwR hones hf2) (List.length_pos_iff.2 hne) hml hsz;have hfr:Fr (λb=>(a.eval x).ownBlock=O b) w w':=⟨hgrow.os,hgrow.tape,hgrow.output,hgrow.size,λc hc hno=>hgrow.block c hc λh=>hno h.symm,λ_=>hdrawn⟩;have hc':v'.ownBlock=(a.eval x).ownBlock\/v'.ownBlock=Y\/∃b,v'.ownBlock=O b/\w.heap.size<=b/\b<w'.heap.size:=by
   rcases hwhere with h|h;·grind
   ·exact .inr<|.inr ⟨w.heap.size,h,yk _,(hown'.lt _ h).2⟩
  have hlen:xs.length<(xs++ys).length:=by grind[List.length_append,List.length_pos_iff]
  have hR':=R.upd (y:=.vec el k<|xs++ys) (c':=v'.ownBlock) hR hi hbs (by grind[Compat]) hfr hc' (by grind[Blk.rep]);refine⟨.value v',w',bs.set i v'.ownBlock,?_,.inl ⟨v',rfl,?_⟩⟩;·simp only[execOp,ho,resolve,invoke,builtin,xr,xt,xi];simp_all
  ·have hil:=(yd.1 hi).1;have hibs:=(yd.1 hbs).1;have hA:∀c,c<w.heap.size->Own C.A0 (bs.set i v'.ownBlock) c->Own C.A0 bs c:=λc hc hc2=>by
    rcases hc2 with hc2|hc2;·exact .inl hc2
    ·rcases uP hc2 with hc2|hc2;·exact .inr hc2
     ·rcases hwhere with h|h;·right;rw[hc2,h];exact yC hbs
      ·rw[h]at hc2;cases hc2;omega
   have hWA:∀c,(a.eval x).ownBlock=O c->Own C.A0 bs c:=λc hc=>.inr<|by rw[<-hc];exact yC hbs
   have hrep:V.rep (Own C.A0<|bs.set i v'.ownBlock) w' (bs.set i v'.ownBlock) (H.set i<|.vec el k<|xs++ys) (.vec i<|xs.length+ys.length) v':=by simp only[V.rep];rw[yy hil];refine⟨by simp,λ_=>⟨cells++news,hown',by rw[yy hibs],D.zwq (D.zve hfr hWA hA _ _ hflat)<|D.zve hfr hWA hA _ _ hf2⟩⟩
   have:=R.put hR' (Fr.refl _ _) (O d) (by simpa[zvk]using hdn) hrep;rw[hd];exact this
end
section
variable[zuV][Drw]
theorem R.zxG {C bs T H a w k}(h:R C bs ⟨T,H⟩ a w)(hk:∀bs' H' i,k.rep (Own C.A0 bs') w bs' H' i):R C (bs++[Y]) ⟨T,H++[k]⟩ a w:=by
 have d:=h.len;have c:∀b,O b∈bs++[Y]->O b∈bs:=λb e=>by simp_all
 have f:∀(p:Nat)(b:Nat),(bs++[Y])[p]?=O (O b)->bs[p]?=O (O b):=by grind
 have g:∀b,b<w.heap.size->Own C.A0 (bs++[Y]) b->Own C.A0 bs b:=λb _ e=>e.imp id<|c b;refine⟨⟨λp q b j o=>h.own.apart p q b (f p b j)<|f q b o,λb e=>h.own.not b<|c b e,λb e=>h.own.lt b<|c b e,h.own.zu5,h.own.glob.fr (Fr.refl zg w) (λ_ x=>x.elim) g⟩,by simp_all,λi x n=>?_,λt v m=>⟨(h.tmp t v m).1,V.zvN d g v _ (h.tmp t v m).2⟩,h.defers,h.size,h.fr,λb e=>h.new b<|c b e,λp j=>⟨(h.gh p j).1,V.zvN d g p.1 _ (h.gh p j).2⟩⟩;rcases uH i H.length with l|l;·rw[yi l]at n;exact Blk.zvN d g i x<|h.blk i x n
 grind
theorem R.know {C bs T H a w t v}(h:R C bs ⟨T,H⟩ a w)(ht:t<C.n)(hv:V.rep (Own C.A0 bs) w bs H v<|a.tmps.getD t Go.undef):R C bs ⟨(t,v)::T,H⟩ a w:=by
 refine⟨h.own,h.len,h.blk,λu x b=>?_,h.defers,h.size,h.fr,h.new,h.gh⟩;simp only[zbn]at b;split at b<;>rename_i e;·simp_all
 ·exact h.tmp u x b
abbrev V.nilS:V:=.d<|.val<|.slice Y 0 0
theorem R.zxf {C bs T H a w t k el}(h:R C bs ⟨T,H⟩ a w)(ht:look t T=O .nilS):R C (bs++[Y]) ⟨(t,.vec H.length 0)::T,H++[.vec el k []]⟩ a w:=by
 obtain⟨d,c⟩:=h.tmp t _ ht;have c:=zt.1 c;refine R.know (h.zxG λ_ _ _=>by grind[Blk.rep]) d ?_;have b:=h.len;simp only[V.rep];rw[yP<|yk _];simp only[uw];refine⟨yk _,λ_=>⟨[],?_,?_,by simp[D.flat]⟩⟩;·grind[World.ownsRow_nil]
 grind[xI]
theorem Tri.zxf {P C c Q T H}(t k el)(ht:look t T=O .nilS)(h:Tri P C c Q ⟨(t,.vec H.length 0)::T,H++[.vec el k []]⟩):Tri P C c Q ⟨T,H⟩:=⟨λ_ a w b=>h.run _ a w<|b.zxf ht⟩
theorem TriL.zxf {P C ops rest Q T H}(t k el)(ht:look t T=O .nilS)(h:TriL P C ops rest Q ⟨(t,.vec H.length 0)::T,H++[.vec el k []]⟩):TriL P C ops rest Q ⟨T,H⟩:=⟨λ_ a w b=>h.run _ a w<|b.zxf ht⟩
mutual inductive FrzI (H:List Blk)(ids:List Nat):V->D->Prop|d(x:D):FrzI H ids (.d x) x|vec{i n:Nat}{t:TypeId}{k:Nat}{xs:List D}:i∈ids->H[i]?=O (.vec t k xs)->n=xs.length->FrzI H ids (.vec i n) (.sl k xs)|sub{i n lo hi:Nat}{t:TypeId}{k:Nat}{xs:List D}:i∈ids->H[i]?=O (.vec t k xs)->n=xs.length->FrzI H ids (.sub i n lo hi) (.sl k<|(xs.drop lo).take<|hi-lo)|arr{i off n:Nat}{t:TypeId}{k:Nat}{xs:List D}:i∈ids->H[i]?=O (.arr t k xs)->off+n<=xs.length->FrzI H ids (.arr i off n) (.sl k<|(xs.drop off).take n)|agg{cs:List V}{ds:List D}:zwO H ids cs ds->FrzI H ids (.agg cs) (.agg ds)|loc{i:Nat}{t:TypeId}{cs:List V}{ds:List D}:i∈ids->H[i]?=O (.box t cs)->zwO H ids cs ds->FrzI H ids (.loc i 0) (.ref<|.agg ds)|loc1{i:Nat}{t:TypeId}{c:V}{d:D}:i∈ids->H[i]?=O (.box t [c])->FrzI H ids c d->d.shape=Y->FrzI H ids (.loc i 0) (.ref d)|mp{i:Nat}{bo:List Nat}{ks:List Value}{ds:List D}{cl:Nat}:i∈ids->H[i]?=O (.mp bo ks ds cl)->wfM bo cl->FrzI H ids (.mp i) (.mp ks ds)inductive zwO (H:List Blk)(ids:List Nat):List V->List D->Prop|nil:zwO H ids [] []|cons{x:V}{d:D}{xs:List V}{ds:List D}:FrzI H ids x d->zwO H ids xs ds->zwO H ids (x::xs) (d::ds)
end
section
variable{A0 A:Nat->Prop}{bs:List<|Option Nat}{H:List Blk}{w:World}{ids:List Nat}
mutual
theorem FrzI.rep (m:Mem A0 bs H w)(hA:∀b,b<w.heap.size->A b->Own A0 bs b)(hids:∀i b,i∈ids->bs[i]?=O (O b)->¬A b):∀{x:V}{d:D},FrzI H ids x d->∀(v:Value),V.rep (Own A0 bs) w bs H x v->D.rep A w d v
 |_,_,.d x,v,hv=>by simp only[V.rep]at hv;exact D.zvU (Fr.refl zg w) (λ_ x=>x.elim) hA x v hv|_,_,.vec (i:=i) (t:=t) (k:=k) (xs:=xs) hin hi hn,v,hv=>by
  simp only[V.rep,hi]at hv;obtain⟨cells,h1,h2,h3⟩:=hv.2 hn;have hl:=D.zwa h3;simp only[D.rep];rcases h1.2 with⟨rfl,hn0⟩|⟨g,cap,cur,rfl,_,hg,hcap,hcm,hcs,htake⟩;·exact⟨Y,0,by rw[<-hn,hn0],by omega,.inl<|yY<|by omega⟩
  ·refine⟨O ⟨g,0,Y⟩,cap,by rw[<-hn],by omega,.inr ⟨g,0,rfl,hids i g hin<|by simpa[xI]using h2,(yn.1 hg).1,D.zvO hA xs cells 0 h3 λj u hu=>?_⟩⟩;have:=h1.cells (g:=g) rfl j u hu;rwa[vT]at this|_,_,.sub (i:=i) (n:=n) (lo:=lo) (hi:=hh) (t:=t) (k:=k) (xs:=xs) hin hi hn,v,hv=>by
  simp only[V.rep,hi]at hv;obtain⟨hdr,cells,h1,h2,h3,hlo,hhi,ad,cap,rfl,hcap,hne⟩:=hv.2 hn;have hlen:((xs.drop lo).take<|hh-lo).length=hh-lo:=by rw[ui,ub];omega
  simp only[D.rep];refine⟨ad,cap,by rw[hlen],by rw[hlen];exact hcap,?_⟩;by_cases hlt:lo<hh
  ·obtain⟨b,hb,rfl⟩:=hne hlt;rcases h1.2 with⟨rfl,hn0⟩|⟨g,cp,cur,rfl,_,hg,hcp,hcm,hcs,htake⟩;·simp[xI]at hb
   ·obtain rfl:g=b:=by simpa[xI]using hb
    refine .inr ⟨g,lo*k,rfl,hids i g hin<|by simpa[xI]using h2,(yn.1 hg).1,D.zwY _ _ _ ?_⟩;have h0:=D.zvO (b:=g) hA xs cells 0 h3 λj u hu=>by
     have:=h1.cells (g:=g) rfl j u hu;rwa[vT]at this
    have:=D.zxh lo xs 0 h0;simpa using this
  ·refine .inl<|yY<|by rw[hlen];omega|_,_,.arr (i:=i) (off:=off) (t:=t) (k:=k) (xs:=xs) hin hi hn,v,hv=>by
  simp only[V.rep,hi]at hv;obtain⟨b,hb,ho,rfl⟩:=hv;have hblk:=m.blk i _ hi;simp only[Blk.rep]at hblk;obtain⟨b',vs,hb',hh,hf⟩:=hblk;obtain rfl:b=b':=by rw[hb]at hb';simpa using hb'
  simp only[D.rep];refine⟨_,_,by rw[ui,ub,vh<|by omega],by rw[ui,ub,vh<|by omega];omega,.inr ⟨b,_,rfl,hids i b hin hb,(yn.1 hh).1,?_⟩⟩;refine D.zwY _ _ _ ?_;have h0:=D.zvO (b:=b) (A':=A) hA xs vs.toList 0 hf λj u hu=>by rw[zab hh];simpa using hu
  have:=D.zxh off xs 0 h0;simpa using this|_,_,.agg h,v,hv=>by simp only[V.rep]at hv;obtain⟨vs,rfl,hr⟩:=hv;simp only[D.rep];exact⟨vs,rfl,zwO.reps m hA hids h _ hr⟩|_,_,.loc (i:=i) hin hi h,v,hv=>by
  simp only[V.rep,hi]at hv;obtain⟨b,hb,rfl⟩:=hv;have hblk:=m.blk i _ hi;simp only[Blk.rep]at hblk;obtain⟨b',vs,hb',hh,hf⟩:=hblk;obtain rfl:b=b':=by rw[hb]at hb';simpa using hb'
  simp only[D.rep];refine⟨b,0,.agg vs,rfl,hids i b hin hb,(yn.1 hh).1,⟨vs,rfl,zwO.reps m hA hids h _ hf⟩,λj hj=>?_⟩;rw[zab hh];simp[xX]|_,_,.mp (i:=i) hin hi hwf,v,hv=>by
  simp only[V.rep,hi]at hv;obtain⟨b,hb,rfl⟩:=hv;have hblk:=m.blk i _ hi;simp only[Blk.rep]at hblk;obtain⟨b',es,hb',hh,hbo,hk,hf⟩:=hblk;obtain rfl:b=b':=by rw[hb]at hb';simpa using hb'
  simp only[D.rep];exact⟨b,es,_,rfl,hids i b hin hb,(yn.1 hh).1,hh,hk,by rw[hbo];exact hwf,D.zvs (Fr.refl zg w) (λ_ x=>x.elim) hA _ _ hf⟩|_,_,.loc1 (i:=i) hin hi h hs,v,hv=>by
  simp only[V.rep,hi]at hv;obtain⟨b,hb,rfl⟩:=hv;have hblk:=m.blk i _ hi;simp only[Blk.rep]at hblk;obtain⟨b',vs,hb',hh,hf⟩:=hblk;obtain rfl:b=b':=by rw[hb]at hb';simpa using hb'
  simp only[V.reps]at hf;obtain⟨u,us,e,hu,e2⟩:=hf;subst e2;have hr:=FrzI.rep m hA hids h u hu;simp only[D.rep];refine⟨b,0,u,rfl,hids i b hin hb,(yn.1 hh).1,hr,λj hj=>?_⟩;have hcu:=D.zvf hr hs;rw[hcu]at hj|-;have hj0:j=0:=by simp at hj;omega
  subst hj0;rw[zab hh,<-y0,e];simp
theorem zwO.reps (m:Mem A0 bs H w)(hA:∀b,b<w.heap.size->A b->Own A0 bs b)(hids:∀i b,i∈ids->bs[i]?=O (O b)->¬A b):∀{xs:List V}{ds:List D},zwO H ids xs ds->∀(vs:List Value),V.reps (Own A0 bs) w bs H xs vs->D.reps A w ds vs|_,_,.nil,vs,hv=>by simpa only[V.reps,D.reps]using hv|_,_,.cons h hs,vs,hv=>by simp only[V.reps]at hv;obtain⟨v,vs',rfl,r1,r2⟩:=hv;simp only[D.reps];exact⟨v,vs',rfl,FrzI.rep m hA hids h v r1,zwO.reps m hA hids hs vs' r2⟩
end
end
theorem R.kill {C bs T H a w}(h:R C bs ⟨T,H⟩ a w)(i):R C (bs.set i Y) ⟨T,H.set i .dead⟩ a w:=by cases e:H[i]? with
 |none=>
  have d:=h.len;grind[List.set_eq_of_length_le]|some x=>
  have d:=h.len;have b:i<bs.length:=by grind
  have c:=yB b;exact R.upd (y:=.dead) (c':=Y) h e c (by grind[Compat]) (Fr.refl _ _) (.inr<|.inl rfl)<|by grind[Blk.rep]
def zvR:List Nat->List Blk->List Blk|[],H=>H|i::ids,H=>zvR ids<|H.set i .dead
def znA:List Nat->List (Option Nat)->List (Option Nat)|[],bs=>bs|i::ids,bs=>znA ids<|bs.set i Y
theorem R.zvR {C T a w}:∀(ids){bs}{H},R C bs ⟨T,H⟩ a w->R C (znA ids bs) ⟨T,Go.Proofs.YtipkniadbkndfaaGreatDoor.zvR ids H⟩ a w|[],_,_,h=>h|i::ids,_,_,h=>R.zvR ids<|h.kill i
theorem zi8:∀(ids)(bs)(i b),(znA ids bs)[i]?=O (O b)->i∉ids/\bs[i]?=O (O b)
 |[],_,_,_,h=>⟨by simp,h⟩|j::ids,bs,i,b,h=>by
  obtain⟨c,a⟩:=zi8 ids _ i b h;grind
end
section
variable[zuV][Drw]
inductive OneV (H:List Blk):V->Prop|d{x:D}:x.one=U->OneV H (.d x)|vec{i n:Nat}{t:TypeId}{k:Nat}{xs:List D}:H[i]?=O (.vec t k xs)->n=xs.length->OneV H (.vec i n)|arr{i off n:Nat}{t:TypeId}{k:Nat}{xs:List D}:H[i]?=O (.arr t k xs)->OneV H (.arr i off n)|loc{i off:Nat}{t:TypeId}{cs:List V}:H[i]?=O (.box t cs)->OneV H (.loc i off)|fn{f:Fn}{a b:List V}:OneV H<|.fn f a b|mp{i:Nat}{bo:List Nat}{ks:List Value}{ds:List D}{cl:Nat}:H[i]?=O (.mp bo ks ds cl)->OneV H (.mp i)
inductive zwN (H:List Blk):List V->Prop|nil:zwN H []|cons{v:V}{vs:List V}:OneV H v->zwN H vs->zwN H (v::vs)
section
variable{A:Nat->Prop}{w:World}{bs:List<|Option Nat}{H:List Blk}
theorem OneV.cell {x}(h:OneV H x){v}(hv:V.rep A w bs H x v):v.oneCell'=true:=by cases h with|d h=>grind[V.rep,D.one_cell]|vec hi hn=>simp only[V.rep,hi]at hv;obtain⟨a,e,_⟩:=hv.2 hn;rcases e.2 with⟨rfl,_⟩|⟨g,f,c,rfl,_⟩<;>rfl|arr hi=>simp only[V.rep,hi]at hv;obtain⟨b,_,_,rfl⟩:=hv;rfl|loc hi=>simp only[V.rep,hi]at hv;obtain⟨b,_,rfl⟩:=hv;rfl|fn=>obtain⟨_,_,rfl,_⟩:=hv;rfl|mp hi=>simp only[V.rep,hi]at hv;obtain⟨b,_,rfl⟩:=hv;rfl
theorem zwN.cells:∀{xs},zwN H xs->∀{vs},V.reps A w bs H xs vs->∀c∈vs,c.oneCell'=U
 |_,.nil,vs,b=>by grind[V.reps]|_,.cons h r,vs,b=>by
  obtain⟨v,d,rfl,e,f⟩:=b;intro c a;rcases yF.1 a with rfl|a;·exact h.cell e
  ·exact r.cells f c a
theorem V.zva:∀{xs}{vs},V.reps A w bs H xs vs->vs.length=xs.length|[],vs,h=>by grind[V.reps]|x::xs,vs,h=>by obtain⟨v,b,rfl,_,a⟩:=h;simp[V.zva a]
theorem V.zvo:∀{xs ys}{vs us},V.reps A w bs H xs vs->V.reps A w bs H ys us->V.reps A w bs H (xs++ys) (vs++us)|[],ys,vs,us,h,b=>by grind[V.reps]|x::xs,ys,vs,us,h,b=>by obtain⟨v,a,rfl,d,c⟩:=h;exact⟨v,a++us,rfl,d,V.zvo c b⟩
theorem V.zwc:∀(n){xs}{vs},V.reps A w bs H xs vs->V.reps A w bs H (xs.drop n) (vs.drop n)|0,_,_,h=>by simp_all|n+1,[],vs,h=>by grind[V.reps]|n+1,x::xs,vs,h=>by obtain⟨v,b,rfl,_,a⟩:=h;simpa using V.zwc n a
theorem V.zwd:∀(n){xs}{vs},V.reps A w bs H xs vs->V.reps A w bs H (xs.take n) (vs.take n)|0,_,_,h=>by simp[V.reps]|n+1,[],vs,h=>by grind[V.reps]|n+1,x::xs,vs,h=>by obtain⟨v,b,rfl,c,a⟩:=h;exact⟨v,_,rfl,c,V.zwd n a⟩
theorem V.zvF:∀{xs}{vs},V.reps A w bs H xs vs->∀(i:Nat)(x),xs[i]?=O x->∃v,vs[i]?=O v/\V.rep A w bs H x v|[],vs,h,i,x,a=>by grind|y::xs,vs,h,0,x,a=>by simp only[V.reps]at h;grind|y::xs,vs,h,i+1,x,a=>by obtain⟨v,c,rfl,_,b⟩:=h;simpa using V.zvF b i x<|by simp_all
theorem V.zwV:∀{ds}{vs},V.reps A w bs H (ds.map .d) vs↔D.reps A w ds vs|[],vs=>by simp[V.reps,D.reps]|x::ds,vs=>by refine⟨λ⟨v,a,e,c,b⟩=>⟨v,a,e,by grind[V.rep],V.zwV.1 b⟩,λ⟨v,a,e,c,b⟩=>⟨v,a,e,by grind[V.rep],V.zwV.2 b⟩⟩
theorem V.zxJ {x v}(hv:V.rep A w bs H x v)(h1:zwN H x.zvi):V.reps A w bs H x.zvi v.cells.toList:=by
 have a:∀(x:V),x.zvi=[x]->zwN H x.zvi->V.rep A w bs H x v->V.reps A w bs H x.zvi v.cells.toList:=by intro x e h1 hv;rw[e]at h1|-;cases h1 with|cons h _=>
   have:=h.cell hv;have b:v.cells=#[v]:=by cases v<;>first|rfl|cases this
   simp only[V.reps];simp_all
 cases x with
 |d x=>cases x with
  |agg ds=>
   obtain⟨vs,rfl,c⟩:=hv;grind[V.zvi,xX,V.zwV]|val y=>cases y with
   |agg vs=>grind[V.rep,D.rep,V.zvi,xX,ziB]|_=>exact a _ rfl h1 hv
  |_=>exact a _ rfl h1 hv
 |agg cs=>
  obtain⟨vs,rfl,c⟩:=hv;grind[V.zvi,xX]|_=>exact a _ rfl h1 hv
end
def cellsOf (P:Program)(t:TypeId):Option Nat:=(P.info? t).map (·.size)
theorem TriL.alloc {P}{C}{ops}{o:Oper}{rest}{Q}{T}{H}{t}{r:Nat}{z}(hg:o.guard=Y)(ho:o.op=.alloc t)(hd:o.dst=O r)(hn:xA r C.n=U)(hz:zbS P t=O z)(k:TriL P C ops rest Q ⟨(r,.loc H.length 0)::T,H++[.box t<|z.cells.toList.map λv=>.d<|.val v]⟩):TriL P C ops (o::rest) Q ⟨T,H⟩:=by
 refine TriL.step hg (λs a w i=>?_) k;have j:(execOp a.eval o).run P w=.ok (.value<|.pointer<|O ⟨w.heap.size,0,Y⟩) (w.alloc<|.cells z.cells t):=by unfold zbS at hz;cases p:P.info? t with
  |none=>simp_all|some inf=>simp only[p]at hz;simp only[execOp,ho,Instr.alloc,zeroValue,typeInfo,program,xr,Sem.run,p,hz,xt,xi];rfl
 have g:Fr zg w<|w.alloc<|.cells z.cells t:=⟨rfl,rfl,rfl,by simp,λb f _=>xE w _ b f,λ_=>yk _⟩;have l:¬C.A0 w.heap.size:=λh=>absurd (i.own.zu5 _ h)<|by omega
 have q:=i.zvP (A:=λc=>C.A0 c\/c=w.heap.size) g (λb f m=>m.elim id λe=>by omega) λb f=>by
   rcases f with f|rfl;·exact yD (i.own.zu5 b f) g.size
   ·simp
 have x:=R.adopt (C:=C) (cs:=z.cells.toList.map λv=>.d<|.val v) (vs:=z.cells) q (heap_alloc_new w _) l i.fr.size<|ziB _;have n:=i.len;refine⟨_,_,s++[O w.heap.size],j,.inl ⟨_,rfl,?_⟩⟩;have:=x.put (Fr.refl _ _) (O r) (by grind[zvk]) (v:=.loc H.length 0) (u:=.pointer<|O ⟨w.heap.size,0,Y⟩)<|by simp only[V.rep];simp_all
 rw[hd];exact this
theorem TriL.box {P}{C}{ops}{o:Oper}{rest}{Q}{T}{H}{t}{x}{r:Nat}{v}(hg:o.guard=Y)(ho:o.op=.box t x)(hd:o.dst=O r)(hn:xA r C.n=U)(hx:ev T x=O v)(h1v:zwN H v.zvi)(k:TriL P C ops rest Q ⟨(r,.loc H.length 0)::T,H++[.box t v.zvi]⟩):TriL P C ops (o::rest) Q ⟨T,H⟩:=by
 refine TriL.step hg (λq a w g=>?_) k;have f:(execOp a.eval o).run P w=.ok (.value<|.pointer<|O ⟨w.heap.size,0,Y⟩) (w.alloc<|.cells (a.eval x).cells t):=by simp only[execOp,ho];rfl
 have i:Fr zg w<|w.alloc<|.cells (a.eval x).cells t:=⟨rfl,rfl,rfl,by simp,λb d _=>xE w _ b d,λ_=>yk _⟩;have j:¬C.A0 w.heap.size:=λh=>absurd (g.own.zu5 _ h)<|by omega
 have p:=g.zvP (A:=λc=>C.A0 c\/c=w.heap.size) i (λb d m=>m.elim id λe=>by omega) λb d=>by
   rcases d with d|rfl;·exact yD (g.own.zu5 b d) i.size
   ·simp
 have l:=V.zxJ (p.ev hx) h1v;have s:=R.adopt (C:=C) (cs:=v.zvi) (vs:=(a.eval x).cells) p (heap_alloc_new w _) j g.fr.size l;have n:=g.len;refine⟨_,_,q++[O w.heap.size],f,.inl ⟨_,rfl,?_⟩⟩;have:=s.put (Fr.refl _ _) (O r) (by grind[zvk]) (v:=.loc H.length 0) (u:=.pointer<|O ⟨w.heap.size,0,Y⟩)<|by simp only[V.rep];simp_all
 rw[hd];exact this
theorem TriL.store {P C ops o rest Q T H t bt x y i off n v cs}(hg:o.guard=Y)(ho:o.op=.store t x y)(hd:o.dst=Y)(hx:ev T x=O (.loc i off))(hi:H[i]?=O (.box bt cs))(hy:ev T y=O v)(h1v:zwN H v.zvi)(hs:cellsOf P t=O n)(hn:v.zvi.length=n)(hfit:off+n<=cs.length)(k:TriL P C ops rest Q ⟨T,H.set i<|.box bt<|cs.take off++v.zvi++cs.drop (off+n)⟩):TriL P C ops (o::rest) Q ⟨T,H⟩:=by
 refine TriL.step hg (λbs a w hR=>?_) k;have h1:=hR.ev hx;simp only[V.rep,hi]at h1;obtain⟨b,hb,hp⟩:=h1;have hblk:=hR.blk i _ hi;simp only[Blk.rep]at hblk;obtain⟨b',vs,hb',hh,hreps⟩:=hblk;obtain rfl:b=b':=by simp_all
 have hcr:=V.zxJ (hR.ev hy) h1v;have hlen1:=V.zva hcr;have hlen2:=V.zva hreps;simp only[yE]at hlen1 hlen2;have hone:∀c∈(a.eval y).cells.toList,c.oneCell'=true:=h1v.cells hcr;have hst:=run_storeCells_at P b off bt (a.eval y).cells.toList 0 vs w hh (by simp_all) hone;simp only[uv,yE]at hst;unfold cellsOf at hs;cases hinf:P.info? t with|none=>simp_all|some inf=>
  simp only[hinf,yQ,yo]at hs;have hsz:(a.eval y).cells.size=inf.size:=by omega
  have hrun:(execOp a.eval o).run P w=.ok .skip (w.setRow b (vs.toList.take off++(a.eval y).cells.toList++vs.toList.drop (off+(a.eval y).cells.size)).toArray):=by simp only[execOp,ho,hp,Instr.storeAt,wj,storeVar,sizeOf,typeInfo,program,xr,Sem.run,hinf,xt,xi,hsz,ne_eq,not_true_eq_false,if_false];simp_all
  refine⟨_,_,bs,hrun,.inr ⟨rfl,?_⟩⟩;have hfr:Fr (λc=>O b=O c) w<|w.setRow b (vs.toList.take off++(a.eval y).cells.toList++vs.toList.drop (off+(a.eval y).cells.size)).toArray:=⟨rfl,rfl,rfl,by simp,λc _ hno=>setRow_other w b c _ λe=>hno<|by rw[e],λ_=>yk _⟩;have hset:bs.set i (O b)=bs:=by
   refine ua λj=>?_;grind
  have hupd:=R.upd (y:=.box bt<|cs.take off++v.zvi++cs.drop (off+n)) (c':=O b) hR hi hb (by simp[Compat]) hfr (.inl rfl)<|by
   simp only[Blk.rep];refine⟨b,_,by simp_all,setRow_heap w b vs _ bt _ hh,?_⟩;have hWA:∀c,O b=O c->Own C.A0 bs c:=λc hc=>.inr<|by grind
   have up:∀(zs:List V)(us:List Value),V.reps (Own C.A0 bs) w bs H zs us->V.reps (Own C.A0<|bs.set i<|O b) (w.setRow b (vs.toList.take off++(a.eval y).cells.toList++vs.toList.drop (off+(a.eval y).cells.size)).toArray) (bs.set i<|O b) (H.set i<|.box bt<|cs.take off++v.zvi++cs.drop (off+n)) zs us:=λzs us h=>V.zwm (x:=.box bt cs) (c:=O b) hi hb (by simp[Compat]) hR.own.apart hfr hWA (λc hc=>hc) (λc _ hc=>by simp_all) zs us h;grind[V.zvo,V.zwd,V.zwc]
  rw[hset]at hupd;rw[hd];exact hupd
theorem OpV.zvc {P o e H t bt x f i off o1 n cs}(ho:o.op=.fieldAddr t x f)(hx:e x=O (.loc i off))(hi:H[i]?=O (.box bt cs))(hf:zwA P t f=O (o1,n)):OpV P o e H<|.loc i<|off+o1:=.of_same λq u w g _ m=>by
  have k:=m x (by grind[xk]) _ hx;simp only[V.rep,hi]at k;obtain⟨b,s,p⟩:=k;unfold zwA at hf;split at hf
  ·rename_i r c;split at hf
   ·rename_i j h;split at hf
    ·split at hf<;>rename_i l;·cases a:P.info? j.type with
      |none=>simp_all|some inf=>
       have d:inf.size≠0:=by simp_all
       refine⟨.pointer<|O ⟨b,off+j.offset,Y⟩,?_,?_⟩;·simp[execOp,ho,p,Instr.fieldAt,run_underlying c,h,wj,fieldPlace,sizeOf,typeInfo,a,d,wq]
       ·simp only[V.rep];simp_all
     simp_all
    simp_all
   simp_all
  simp_all
def allD:List V->Option (List D)
 |[]=>O []|.d x::vs=>match allD vs with|some ds=>O<|x::ds|none=>Y
 |_=>Y
def zzC (cs:List V):V:=match allD cs with|some ds=>.d<|.agg ds|none=>.agg cs
theorem zkj:∀{cs}{ds},allD cs=O ds->cs=ds.map .d|[],ds,h=>by grind[allD]|v::c,ds,h=>by cases v with
  |d x=>
   simp only[allD]at h;split at h;·rename_i b a;simp only[yo]at h;subst h;rw[zkj a];rfl
   grind|_=>grind[allD]
theorem OpV.zvd {P o e H t bt x i off v cs}(ho:o.op=.load t x)(hx:e x=O (.loc i off))(hi:H[i]?=O (.box bt cs))(ht:zan P t=O Y)(hv:cs[off]?=O v):OpV P o e H v:=.of_same λr B w g m p=>by have l:=p x (by grind[xk]) _ hx;simp only[V.rep,hi]at l;obtain⟨b,s,q⟩:=l;have d:=m.blk i _ hi;obtain⟨z,A,n,C,a⟩:=d;obtain⟨u,y,h⟩:=V.zvF a off v hv;refine⟨u,?_,h⟩;unfold zan at ht;cases j:P.underlying t with|none=>simp_all|some ty=>
   by_cases k:ty.isRow=U;·simp_all
   ·have f:(isAgg t).run P w=.ok M w:=by unfold isAgg;rw[xr,run_underlying j w];cases ty<;>simp_all
    have c:w.cell? ⟨b,off,Y⟩=O u:=by grind[zab]
    simp[execOp,ho,q,vS,wj,loadVar,f,c]
theorem OpV.zwJ {P o e H t bt x i off n v cs}(ho:o.op=.load t x)(hx:e x=O (.loc i off))(hi:H[i]?=O (.box bt cs))(ht:zan P t=O (O n))(hn:off+n<=cs.length)(hv:zzC ((cs.drop off).take n)=v):OpV P o e H v:=.of_same λB F w g m A=>by
  have q:=A x (by simp[ho,xk]) _ hx;simp only[V.rep,hi]at q;obtain⟨b,G,s⟩:=q;have f:=m.blk i _ hi;obtain⟨E,l,z,C,a⟩:=f;have d:=V.zva a;simp only[yE]at d;have c:=V.zwd n<|V.zwc off a;have y:((l.toList.drop off).take n).length=n:=by simp;omega
  refine⟨.agg ((l.toList.drop off).take n).toArray,?_,?_⟩;·unfold zan at ht;cases k:P.underlying t with|none=>simp_all|some ty=>
    simp only[k]at ht;by_cases h:ty.isRow=U;·cases p:P.info? t with
     |none=>simp[p]at ht|some inf=>
      have:=run_loadAt_mid (P:=P) w b off t ((l.toList.drop off).take n) ty (λj u I=>by grind[zab]) k h<|by simp_all
      simp only[execOp,ho,s,xr,this,xi,xt]
    simp_all
  ·subst hv;unfold zzC;split;·rename_i xf r;rw[zkj r]at c;exact⟨_,rfl,V.zwV.1 c⟩
   ·simp only[V.rep];simp_all
end
structure Range where
 lo:Int
 hi:Int deriving DecidableEq,Inhabited
def Range.enc (x:Range):D:=.agg [.int x.lo,.int x.hi]
structure Table where
 name:List UInt8
 kind:Int
 zuO:List Int
 range:Range
 first:Int deriving DecidableEq,Inhabited
def Table.enc (x:Table):D:=.agg [.str x.name,.int x.kind,.sl 1<|x.zuO.map D.int,.int x.range.lo,.int x.range.hi,.int x.first]
structure Term where
 cell:Int
 zuW:Int deriving DecidableEq,Inhabited
def Term.enc (x:Term):D:=.agg [.int x.cell,.int x.zuW]
structure Row where
 zuQ:List Term
 bound:Int deriving DecidableEq,Inhabited
def Row.enc (x:Row):D:=.agg [.sl 2<|x.zuQ.map Term.enc,.int x.bound]
structure Constraint where
 kind:Int
 family:Int
 row:Row
 first:Int
 size:Int deriving DecidableEq,Inhabited
def Constraint.enc (x:Constraint):D:=.agg [.int x.kind,.int x.family,.sl 2<|x.row.zuQ.map Term.enc,.int x.row.bound,.int x.first,.int x.size]
structure zvp where
 name:List UInt8
 ordered:Bool
 zuU:List Int deriving DecidableEq,Inhabited
def zvp.enc (x:zvp):D:=.agg [.str x.name,.bool x.ordered,.sl 1<|x.zuU.map D.int]
structure Change where
 cell:Int
 add:Int deriving DecidableEq,Inhabited
def Change.enc (x:Change):D:=.agg [.int x.cell,.int x.add]
structure zwp where
 kind:Int
 cell:Int
 value:Int deriving DecidableEq,Inhabited
def zwp.enc (x:zwp):D:=.agg [.int x.kind,.int x.cell,.int x.value]
structure zvL where
 delta:List Change
 hold:List Row
 zuX:List zwp deriving DecidableEq,Inhabited
def zvL.enc (x:zvL):D:=.agg [.sl 2<|x.delta.map Change.enc,.sl 2<|x.hold.map Row.enc,.sl 3<|x.zuX.map zwp.enc]
structure Action where
 operation:Int
 arguments:List Int
 effect:zvL deriving DecidableEq,Inhabited
def Action.enc (x:Action):D:=.agg [.int x.operation,.sl 1<|x.arguments.map D.int,.sl 2<|x.effect.delta.map Change.enc,.sl 2<|x.effect.hold.map Row.enc,.sl 3<|x.effect.zuX.map zwp.enc]
structure Hide where
 table:Int
 column:Int
 to:Int deriving DecidableEq,Inhabited
def Hide.enc (x:Hide):D:=.agg [.int x.table,.int x.column,.int x.to]
structure Model where
 zuU:List Int
 tables:List Table
 zu1:List<|List UInt8
 constraints:List Constraint
 zuS:List zvp
 zuP:List Action
 zu2:List Hide deriving DecidableEq,Inhabited
def Model.enc (x:Model):D:=.agg [.sl 1<|x.zuU.map D.int,.sl 6<|x.tables.map Table.enc,.sl 1<|x.zu1.map D.str,.sl 6<|x.constraints.map Constraint.enc,.sl 3<|x.zuS.map zvp.enc,.sl 5<|x.zuP.map Action.enc,.sl 3<|x.zu2.map Hide.enc]
structure Target where
 hold:Bool
 index:Int deriving DecidableEq,Inhabited
structure Question where
 e:Int
 f:Int
 target:Target deriving DecidableEq,Inhabited
def Question.enc (x:Question):D:=.agg [.int x.e,.int x.f,.bool x.target.hold,.int x.target.index]
structure Step where
 kind:Int
 index:Int
 cell:Int deriving DecidableEq,Inhabited
def Step.enc (x:Step):D:=.agg [.int x.kind,.int x.index,.int x.cell]
structure Tree where
 kind:Int
 steps:List Step
 cell:Int
 at_:Int
 kids:List Tree deriving Inhabited
def Tree.encs:List Tree->List D|[]=>[]|⟨kind,steps,cell,at_,kids⟩::l=>.agg [.int kind,.sl 3<|steps.map Step.enc,.int cell,.int at_,.sl 5<|Tree.encs kids]::Tree.encs l
def Tree.enc (x:Tree):D:=.agg [.int x.kind,.sl 3<|x.steps.map Step.enc,.int x.cell,.int x.at_,.sl 5<|Tree.encs x.kids]
theorem Tree.zww:∀l:List Tree,Tree.encs l=l.map Tree.enc|[]=>by simp[Tree.encs]|⟨_,_,_,_,_⟩::l=>by simp[Tree.encs,Tree.enc,Tree.zww l]
theorem Tree.zxY (x:Tree):x.enc=.agg [.int x.kind,.sl 3<|x.steps.map Step.enc,.int x.cell,.int x.at_,.sl 5<|x.kids.map Tree.enc]:=by simp only[Tree.enc,Tree.zww]
structure zvr where
 kind:Int
 state:List Int
 tree:Tree
 steps:Int deriving Inhabited
def zvr.enc (x:zvr):D:=.agg [.int x.kind,.sl 1<|x.state.map D.int,.int x.tree.kind,.sl 3<|x.tree.steps.map Step.enc,.int x.tree.cell,.int x.tree.at_,.sl 5<|x.tree.kids.map Tree.enc,.int x.steps]
structure Swap where
 sort:Int
 a:Int
 b:Int deriving DecidableEq,Inhabited
structure zvg where
 first:Int
 size:Int
 least:List Int deriving DecidableEq,Inhabited
def zvg.enc (x:zvg):D:=.agg [.int x.first,.int x.size,.sl 1<|x.least.map D.int]
structure System where
 box:List Range
 rows:List Row
 zuT:List zvg
 cases:List<|List Row deriving DecidableEq,Inhabited
def System.enc (x:System):D:=.agg [.sl 2<|x.box.map Range.enc,.sl 2<|x.rows.map Row.enc,.sl 3<|x.zuT.map zvg.enc,.sl 1<|x.cases.map λl=>D.sl 2<|l.map Row.enc]
structure Answer where
 kind:Int
 case_:Int
 values:List Int
 tree:Tree
 steps:Int deriving Inhabited
def Answer.enc (x:Answer):D:=.agg [.int x.kind,.int x.case_,.sl 1<|x.values.map D.int,.int x.tree.kind,.sl 3<|x.tree.steps.map Step.enc,.int x.tree.cell,.int x.tree.at_,.sl 5<|x.tree.kids.map Tree.enc,.int x.steps]
structure zvB where
 s:System
 rows:List Row
 zvh:Int
 cost:Int deriving DecidableEq,Inhabited
def zvB.enc (x:zvB):D:=.agg [.sl 2<|x.s.box.map Range.enc,.sl 2<|x.s.rows.map Row.enc,.sl 3<|x.s.zuT.map zvg.enc,.sl 1<|x.s.cases.map λl=>D.sl 2<|l.map Row.enc,.sl 2<|x.rows.map Row.enc,.int x.zvh,.int x.cost]
structure Found where
 values:List Int
 index:Int
 tree:Tree deriving Inhabited
def Found.enc (x:Found):D:=.agg [.osl 1<|x.values.map D.int,.int x.index,.int x.tree.kind,.sl 3<|x.tree.steps.map Step.enc,.int x.tree.cell,.int x.tree.at_,.sl 5<|x.tree.kids.map Tree.enc]
structure zvb where
 s:System
 rows:List Row
 box:List Range
 zu8:Bool deriving DecidableEq,Inhabited
def zvb.enc (x:zvb):D:=.agg [.sl 2<|x.s.box.map Range.enc,.sl 2<|x.s.rows.map Row.enc,.sl 3<|x.s.zuT.map zvg.enc,.sl 1<|x.s.cases.map λl=>D.sl 2<|l.map Row.enc,.sl 2<|x.rows.map Row.enc,.sl 2<|x.box.map Range.enc,.bool x.zu8]
structure Box where
 steps:List Step
 box:List Range
 open_:Bool
 fine:Bool deriving DecidableEq,Inhabited
structure Place where
 table:Int
 tuple:List Int deriving DecidableEq,Inhabited
def Place.enc (x:Place):D:=.agg [.int x.table,.sl 1<|x.tuple.map D.int]
structure zwM where
 m:Model
 strict:List Place
 merged:List Place deriving DecidableEq,Inhabited
def zwM.enc (x:zwM):D:=.agg [.sl 1<|x.m.zuU.map D.int,.sl 6<|x.m.tables.map Table.enc,.sl 1<|x.m.zu1.map D.str,.sl 6<|x.m.constraints.map Constraint.enc,.sl 3<|x.m.zuS.map zvp.enc,.sl 5<|x.m.zuP.map Action.enc,.sl 3<|x.m.zu2.map Hide.enc,.sl 2<|x.strict.map Place.enc,.sl 2<|x.merged.map Place.enc]
structure zwi where
 size:Int
 zu9:List Bool deriving DecidableEq,Inhabited
def zwi.enc (x:zwi):D:=.agg [.int x.size,.sl 1<|x.zu9.map D.bool]
structure zwC where
 model:Model
 strict:List Range deriving DecidableEq,Inhabited
def zwC.enc (x:zwC):D:=.agg [.sl 1<|x.model.zuU.map D.int,.sl 6<|x.model.tables.map Table.enc,.sl 1<|x.model.zu1.map D.str,.sl 6<|x.model.constraints.map Constraint.enc,.sl 3<|x.model.zuS.map zvp.enc,.sl 5<|x.model.zuP.map Action.enc,.sl 3<|x.model.zu2.map Hide.enc,.sl 2<|x.strict.map Range.enc]
structure Token where
 kind:Int
 from_:Int
 at_:Int
 end_:Int deriving DecidableEq,Inhabited
def Token.enc (x:Token):D:=.agg [.int x.kind,.int x.from_,.int x.at_,.int x.end_]
structure SSpan where
 start:Int
 end_:Int deriving DecidableEq,Inhabited
structure Swapping where
 layout:zwM
 s:Swap deriving DecidableEq,Inhabited
def grd {R:Type}(c:Bool)(m:Option R):Option R:=if c=U then m else Y
def jn {σ R:Type}(k:σ->Option R)(m:(σ->Option R)->Option R):Option R:=m k
def zuR {σ R:Type}(body:(σ->Option R)->σ->Option R):Nat->σ->Option R|0,_=>Y|n+1,s=>body (zuR body n) s
def idx {α:Type}(l:List α)(i:Int):Option α:=if 0<=i then l[i.toNat]? else Y
def sto {α:Type}(l:List α)(i:Int)(x:α):Option<|List α:=if 0<=i/\i.toNat<l.length then O<|l.set i.toNat x else Y
def sidx (l:List UInt8)(i:Int):Option Int:=if 0<=i then l[i.toNat]?.map λb=>(b.toNat:Int)else Y
def cut {α:Type}(l:List α)(lo hi:Int):Option<|List α:=if 0<=lo/\lo<=hi/\hi<=(l.length:Int)then O<|(l.drop lo.toNat).take<|hi.toNat-lo.toNat else Y
def app {α:Type}(bytes:Nat)(xs ys:List α):Option<|List α:=if(xs.length+ys.length)*bytes<=140737488355328 then O<|xs++ys else Y
def mkl {α:Type}(bytes:Nat)(n:Int)(x:α):Option<|List α:=if 0<=n/\n*bytes<=140737488355328 then O<|xy n.toNat x else Y
def w64 (x:Int):Int:=IntKind.i64.wrap x
def zuN (a b:Int):Int:=w64<|a+b
def zuY (a b:Int):Int:=w64<|a-b
def zuZ (a b:Int):Int:=w64<|a*b
def zvC (a:Int):Int:=w64<|-a
def zv1 (a b:Int):Option Int:=if b=0 then Y else O<|w64<|a.tdiv b
def zv2 (a b:Int):Option Int:=if b=0 then Y else O<|a.tmod b
theorem grdS {R:Type}{c:Bool}{m:Option R}{r:R}(h:grd c m=O r):c=U/\m=O r:=by unfold grd at h;split at h<;>simp_all
theorem zvq {α R:Type}{o:Option α}{k:α->Option R}{r:R}(h:o.bind k=O r):∃v,o=O v/\k v=O r:=by cases o with|none=>simp at h|some v=>exact⟨v,rfl,by simpa using h⟩
theorem iteT {R:Type}{b:Bool}{x y:Option R}{r:R}(hb:b=U)(h:(if b=U then x else y)=O r):x=O r:=by rwa[if_pos hb]at h
theorem iteF {R:Type}{b:Bool}{x y:Option R}{r:R}(hb:b=M)(h:(if b=U then x else y)=O r):y=O r:=by rwa[if_neg<|by simp[hb]]at h
theorem idxS {α:Type}{l:List α}{i:Int}{v:α}(h:idx l i=O v):∃n:Nat,i=(n:Int)/\∃hn:n<l.length,l[n]=v:=by
 unfold idx at h;split at h;·rename_i h0;obtain⟨n,rfl⟩:=y9 h0;simp only[yr]at h;obtain⟨hn,e⟩:=yd.1 h;exact⟨n,rfl,hn,e⟩
 ·cases h
theorem zvI {α:Type}[Inhabited α]{o:Option α}(h:o.isSome=U):o=O (o.getD J):=by cases o<;>simp_all
theorem z9 {x:Int}(h1:-9223372036854775808<=x)(h2:x<=9223372036854775807):w64 x=x:=IntWalk.i64_in x ⟨h1,h2⟩
section
variable[zuV][Drw]
section
variable{P:Program}{o:Oper}{e:Operand->Option V}{H:List Blk}
theorem OpV.add6 {t u x y a b}(ho:o.op=.binOp .add t x y u)(hx:e x=O (.d<|.int a))(hy:e y=O (.d<|.int b)):OpV P o e H<|.d<|.int<|zuN a b:=.add ho hx hy
theorem OpV.sub6 {t u x y a b}(ho:o.op=.binOp .sub t x y u)(hx:e x=O (.d<|.int a))(hy:e y=O (.d<|.int b)):OpV P o e H<|.d<|.int<|zuY a b:=.sub ho hx hy
theorem OpV.mul6 {t u x y a b}(ho:o.op=.binOp .mul t x y u)(hx:e x=O (.d<|.int a))(hy:e y=O (.d<|.int b)):OpV P o e H<|.d<|.int<|zuZ a b:=.mul ho hx hy
theorem OpV.neg6 {t x a}(ho:o.op=.unOp .neg t x)(hx:e x=O (.d<|.int a)):OpV P o e H<|.d<|.int<|zvC a:=.neg ho hx
theorem OpV.quo6 {t u x y a b c}(ho:o.op=.binOp .quo t x y u)(hx:e x=O (.d<|.int a))(hy:e y=O (.d<|.int b))(hc:zv1 a b=O c):OpV P o e H<|.d<|.int c:=by
 unfold zv1 at hc;split at hc;·grind
 ·rename_i h;cases hc;exact .zv4 ho hx hy λw=>by simp[binOp,Op.intDiv,h,w64]
theorem OpV.rem6 {t u x y a b c}(ho:o.op=.binOp .rem t x y u)(hx:e x=O (.d<|.int a))(hy:e y=O (.d<|.int b))(hc:zv2 a b=O c):OpV P o e H<|.d<|.int c:=by
 unfold zv2 at hc;split at hc;·grind
 ·rename_i h;cases hc;exact .zv4 ho hx hy λw=>by simp[binOp,Op.intDiv,h]
theorem zjy {w}(op)(t x y a b):(eqGuard op t x y (.bool a)<|.bool b).run P w=.ok () w:=by unfold eqGuard;simp_all
theorem OpV.beq {t u x y a b}(ho:o.op=.binOp .eql t x y u)(ht:P.underlying t=O .bool)(hx:e x=O (.d<|.bool a))(hy:e y=O (.d<|.bool b)):OpV P o e H<|.d<|.bool<|a==b:=.of_same λ_ _ w f _ c=>by have h:=zt.1<|c x (by grind[xk]) _ hx;have g:=zt.1<|c y (by grind[xk]) _ hy;exact⟨.bool<|a==b,by simp only[execOp,ho,h,g,zjy,binOp,run_equal_bool w t a b ht,xr,xt,xi],zt.2 rfl⟩
theorem OpV.bne {t u x y a b}(ho:o.op=.binOp .neq t x y u)(ht:P.underlying t=O .bool)(hx:e x=O (.d<|.bool a))(hy:e y=O (.d<|.bool b)):OpV P o e H<|.d<|.bool<|a !=b:=.of_same λ_ _ w f _ c=>by have h:=zt.1<|c x (by grind[xk]) _ hx;have g:=zt.1<|c y (by grind[xk]) _ hy;exact⟨.bool<|a !=b,by simp only[execOp,ho,h,g,zjy,binOp,run_equal_bool w t a b ht,xr,xi];rfl,zt.2 rfl⟩
theorem OpV.conv {s d}{su}{x k j a}(ho:o.op=.convert s d x)(hs:P.underlying s=O su)(hd:P.underlying d=O (.int k))(hx:e x=O (.d<|.val<|.int j a)):OpV P o e H<|.d<|.val<|.int k<|k.wrap a:=.of_same λ_ _ w f _ c=>by have b:=zt.1<|c x (by grind[xk]) _ hx;refine⟨.int k<|k.wrap a,?_,zt.2 rfl⟩;simp[execOp,ho,b,convert,run_underlying hs,run_underlying hd,Conv.intToInt]
theorem OpV.idx {α}{t el x i}{k}{l}{enc}{a}{v:α}(ho:o.op=.indexAddr t x i)(hx:e x=O (.d<|.sl k<|l.map enc))(hi:e i=O (.d<|.int a))(ht:P.underlying t=O (.slice el))(hs:(P.info? el).map (·.size)=O k)(hv:Go.Proofs.YtipkniadbkndfaaGreatDoor.idx l a=O v):OpV P o e H<|.d<|.ref<|enc v:=by obtain⟨n,c,b,rfl⟩:=idxS hv;exact .indexAddr ho hx hi ht hs c b
theorem OpV.sidx {t x i}{l}{a v}(ho:o.op=.index t x i)(hx:e x=O (.d<|.str l))(hi:e i=O (.d<|.int a))(ht:P.underlying t=O .string)(hv:Go.Proofs.YtipkniadbkndfaaGreatDoor.sidx l a=O v):OpV P o e H<|.d<|.val<|.int .u8 v:=.of_same λ_ _ w f _ h=>by
  have m:=zt.1<|h x (by grind[xk]) _ hx;have p:=zt.1<|h i (by grind[xk]) _ hi;refine⟨.int .u8 v,?_,zt.2 rfl⟩;unfold Go.Proofs.YtipkniadbkndfaaGreatDoor.sidx at hv;split at hv;·rename_i k;cases g:l[a.toNat]? with
   |none=>simp_all|some b=>
    simp[g]at hv;subst hv;obtain⟨n,c⟩:=yd.1 g;have j:(⟨l.toArray⟩:ByteArray)[a.toNat]?=O b:=by rw[getElem?_eq_some_iff];exact⟨n,c⟩
    simp[execOp,ho,m,p,Instr.index,asIntOf,run_underlying ht,k,j]
  simp_all
theorem OpV.extract {x i ds d}(ho:o.op=.extract x i)(hx:e x=O (.d<|.tup ds))(hd:ds[i]?=O d):OpV P o e H<|.d d:=.of_same λk j w f _ c=>by
  have a:=c x (by grind[xk]) _ hx;obtain⟨b,a,g⟩:=a;obtain⟨v,l,h⟩:=D.zvF g i d hd;refine⟨v,?_,by grind[V.rep]⟩;have:b[i]?=O v:=by simp_all
  simp[execOp,ho,a,Instr.extract,this]
theorem OpV.zyp {x d}(ho:o.op=.nilCheck x)(hx:e x=O (.d<|.ref d)):OpV P o e H<|.d<|.ref d:=.of_same λj i w f _ h=>by have a:=h x (by grind[xk]) _ hx;refine⟨f x,?_,a⟩;obtain⟨b,g,u,c,_⟩:=a;simp[execOp,ho,c]
theorem OpV.zyo {x i off t cs}(ho:o.op=.nilCheck x)(hx:e x=O (.loc i off))(hi:H[i]?=O (.box t cs)):OpV P o e H<|.loc i off:=.of_same λh g w f _ d=>by have a:=d x (by grind[xk]) _ hx;refine⟨f x,?_,a⟩;simp only[V.rep,hi]at a;obtain⟨b,_,c⟩:=a;simp[execOp,ho,c]
end
end
section
variable[zuV][Drw]
inductive D.Le:D->D->Prop|refl(d:D):D.Le d d|nil(k:Nat):D.Le (.val<|.slice Y 0 0)<|.sl k []|onil(k:Nat):D.Le (.val<|.slice Y 0 0)<|.osl k []|osl(k:Nat)(xs:List D):D.Le (.osl k xs)<|.sl k xs|ofRep(d d':D):(∀A w v,d.rep A w v->d'.rep A w v)->D.Le d d'
theorem D.Le.rep {A w d d' v}(h:D.Le d d')(hv:d.rep A w v):d'.rep A w v:=by cases h with|refl=>grind|nil k=>simp only[D.rep]at hv|-;simp_all|onil k=>simp only[D.rep]at hv|-;simp_all|osl k xs=>grind[D.rep]|ofRep _ _ h=>simp_all
inductive D.Les:List D->List D->Prop|nil:D.Les [] []|cons{d d':D}{ds ds':List D}:D.Le d d'->D.Les ds ds'->D.Les (d::ds) (d'::ds')
theorem D.Les.reps {A w}:∀{ds ds'}{vs},D.Les ds ds'->D.reps A w ds vs->D.reps A w ds' vs|_,_,_,.nil,h=>h|_,_,_,.cons h d,c=>by obtain⟨v,a,e,f,b⟩:=c;exact⟨v,a,e,h.rep f,d.reps b⟩
theorem zoS {A w}:∀(vs),D.reps A w (vs.map .val) vs|[]=>by grind[D.reps]|v::vs=>by exact⟨v,vs,rfl,by grind[D.rep],zoS vs⟩
theorem D.Le.ofAgg {vs:List Value}{ds}(h:D.Les (vs.map .val) ds):D.Le (.val<|.agg vs.toArray)<|.agg ds:=.ofRep _ _ λA w v a=>by exact⟨vs.toArray,a,by simpa using h.reps<|zoS vs⟩
structure zwI (P:Program)(t:TypeId)(d:D):Prop where out:∃z,zbS P t=O z/\∀A w,d.rep A w z
def zwj (P:Program)(t:TypeId):Option<|List D:=match zbS P t with|some<|.agg cs=>O<|cs.toList.map .val|_=>Y
theorem znh {A w}:∀(l),D.reps A w (l.map .val) l|[]=>by simp[D.reps]|v::l=>by exact⟨v,l,rfl,by grind[D.rep],znh l⟩
theorem zwI.agg {P t ds ds'}(h:zwj P t=O ds)(hl:D.Les ds ds'):zwI P t<|.agg ds':=by
 unfold zwj at h;split at h;·rename_i b a;cases h;exact⟨_,a,λA w=>by exact⟨b,rfl,hl.reps<|znh _⟩⟩
 grind
theorem zwI.val {P t v}(h:zbS P t=O v):zwI P t<|.val v:=⟨_,h,λ_ _=>by grind[D.rep]⟩
def zxm:List D->List (Nat×Nat×D)->Option (List D)|cs,[]=>O cs|cs,(off,n,d)::r=>match d with|.agg ds=>if ds.length=n/\off+n<=cs.length then zxm (cs.take off++ds++cs.drop (off+n)) r else Y|d=>if n=1/\off+1<=cs.length/\d.shape=Y then zxm (cs.take off++[d]++cs.drop (off+1)) r else Y
def zdo (P:Program)(t:TypeId):Option<|List<|Nat×Nat:=match P.underlying t with|some<|.struct fs=>if fs.all λf=>(P.info? f.type).isSome then O<|fs.toList.map λf=>(f.offset,P.cellsOf f.type)else Y|_=>Y
def zhp (e:Operand->Option V)(pl:List<|Nat×Nat):List (Nat×Operand)->Option (List<|Nat×Nat×D)|[]=>O []|(i,x)::r=>match pl[i]?,e x,zhp e pl r with|some (off,n),O<|.d d,O ps=>O<|(off,n,d)::ps|_,_,_=>Y
theorem D.zvo {A w}:∀{xs ys}{vs us},D.reps A w xs vs->D.reps A w ys us->D.reps A w (xs++ys) (vs++us)|[],ys,vs,us,h,b=>by grind[D.reps]|x::xs,ys,vs,us,h,b=>by obtain⟨v,a,rfl,d,c⟩:=h;exact⟨v,a++us,rfl,d,D.zvo c b⟩
theorem zn7 (vs cs:Array Value)(off:Nat)(h:off+vs.size<=cs.size):(vs.zipIdx.foldl (λcs(p:Value×Nat)=>cs.setIfInBounds (off+p.2) p.1) cs).toList=cs.toList.take off++vs.toList++cs.toList.drop (off+vs.size):=by
 have key:∀(l:List Value)(k:Nat)(cs:Array Value),off+k+l.length<=cs.size->((l.zipIdx k).foldl (λcs(p:Value×Nat)=>cs.setIfInBounds (off+p.2) p.1) cs).toList=cs.toList.take (off+k)++l++cs.toList.drop (off+k+l.length):=by
  intro l;induction l with
  |nil=>simp_all|cons x l ih=>
   intro k cs hk;simp only[yW]at hk;simp only[List.zipIdx_cons,List.foldl_cons];rw[ih (k+1) _<|by grind];simp only[Array.toList_setIfInBounds,yW];have h1:off+k<cs.toList.length:=by grind
   rw[show off+(k+1)=off+k+1 by omega,List.take_add_one,yy h1,List.take_set,List.drop_set];simp only[Option.toList_some,yM,uu,yN,show off+k<off+k+1+l.length by omega,if_true];grind[List.set_eq_of_length_le]
 have:=key vs.toList 0 cs<|by simp_all
 grind[Array.toList_zipIdx]
theorem zo5 {P:Program}{A}{w}{bs}{H}{e:Operand->Option V}{f:Operand->Value}{pl:List<|Nat×Nat}{place:Nat->Option (Nat×Nat)}(hpl:∀i,place i=pl[i]?):∀(parts:List<|Nat×Operand)(ps:List<|Nat×Nat×D)(cs ds:List D)(vs:Array Value),zhp e pl parts=O ps->(∀x∈parts.map (·.2),∀y,e x=O y->V.rep A w bs H y (f x))->zxm cs ps=O ds->D.reps A w cs vs.toList->∃us,vX place vs (parts.map λ(i,x)=>(i,f x))=O us/\D.reps A w ds us.toList
 |[],ps,cs,ds,vs,hp,_,hf,hr=>by simp only[zhp,yo]at hp;subst hp;simp only[zxm,yo]at hf;subst hf;exact⟨vs,by simp[vX],hr⟩|(i,x)::parts,ps,cs,ds,vs,hp,hx,hf,hr=>by
  simp only[zhp]at hp;split at hp
  ·rename_i off n d ps' h1 h2 h3;simp only[yo]at hp;subst hp;have hv:=hx x (by simp) _ h2;simp only[V.rep]at hv;have hlen:=D.zva hr;have step:∀(dd:List D),D.reps A w dd (f x).cells.toList->dd.length=n->off+n<=cs.length->zxm (cs.take off++dd++cs.drop (off+n)) ps'=O ds->∃us,vX place vs (((i,x)::parts).map λ(i,x)=>(i,f x))=O us/\D.reps A w ds us.toList:=by
    intro dd hdd hn hfit hfl;have hsz:(f x).cells.size=n:=by have:=D.zva hdd;simp at this;omega
    have hfit':off+(f x).cells.size<=vs.size:=by simp at hlen;omega
    have e1:=zn7 (f x).cells vs off hfit';obtain⟨us,g1,g2⟩:=zo5 (P:=P) hpl parts ps' _ ds ((f x).cells.zipIdx.foldl (λcs(p:Value×Nat)=>cs.setIfInBounds (off+p.2) p.1) vs) h3 (λy hy=>hx y<|by simp_all) hfl<|by rw[e1,hsz];exact D.zvo (D.zvo (D.zwd off hr) hdd)<|D.zwc _ hr
    refine⟨us,?_,g2⟩;simp only[yX,vX,hpl,h1];simp_all
   cases d with
   |agg dd=>
    simp only[zxm]at hf;split at hf;·rename_i hc;simp only[D.rep]at hv;obtain⟨us,e1,h4⟩:=hv;exact step dd (by rw[e1];exact h4) hc.1 hc.2 hf
    simp_all|val _|tup _|sl _ _|ref _|fn _ _ _|mp _ _|err|osl _ _=>
    simp only[zxm]at hf;split at hf;·rename_i hc;obtain⟨rfl,hc2,hc3⟩:=hc;exact step [_] (by rw[D.zvf hv hc3];simp only[D.reps];exact⟨_,[],rfl,hv,rfl⟩) rfl hc2 hf
    simp_all
  simp_all
section
variable{P:Program}{o:Oper}{e:Operand->Option V}{H:List Blk}
theorem zkK {w}:∀(fs:List Field),(∀f∈fs,(P.info? f.type).isSome=U)->(fs.mapM λf=>do pure (f.offset,<-sizeOf f.type):Sem<|List<|Nat×Nat).run P w=.ok (fs.map λf=>(f.offset,P.cellsOf f.type)) w|[],_=>by simp|f::fs,h=>by have b:=h f (by simp);obtain⟨i,a⟩:=Option.isSome_iff_exists.1 b;simp only[List.mapM_cons,xr,run_sizeOf w a,xi,xt,zkK fs λg c=>h g<|by grind,yX]
theorem OpV.build {t}{parts}{pl}{ps}{cs ds}(ho:o.op=.build t parts)(hpl:zdo P t=O pl)(hz:zwI P t<|.agg cs)(hp:zhp e pl parts.toList=O ps)(hf:zxm cs ps=O ds):OpV P o e H<|.d<|.agg ds:=.of_same λk bs w f _ p=>by
  obtain⟨z,hz,a⟩:=hz.out;have a:=a (Own k bs) w;obtain⟨g,rfl,c⟩:=a;unfold zdo at hpl;split at hpl
  ·rename_i b n;split at hpl
   ·obtain⟨m,u,r⟩:=zo5 (P:=P) (A:=Own k bs) (w:=w) (bs:=bs) (H:=H) (e:=e) (f:=f) (pl:=pl) (place:=λi=>(b.map λf=>(f.offset,P.cellsOf f.type))[i]?) (λi=>by grind) parts.toList ps cs ds g hp (λx s=>p x<|by grind[xk]) hf c;refine⟨.agg m,?_,by simp only[V.rep,D.rep];simp_all⟩;unfold zbS at hz;cases l:P.info? t with
    |none=>simp_all|some inf=>
     simp only[l]at hz;have q:(b.mapM λf=>do pure (f.offset,<-sizeOf f.type):Sem<|Array<|Nat×Nat).run P w=.ok (b.map λf=>(f.offset,P.cellsOf f.type)) w:=by
      rw[<-vp (xs:=b),List.mapM_toArray];grind[zkK,Array.all_eq_true',map_eq_pure_bind,xr,xi,xt]
     have j:(zeroValue t).run P w=.ok (.agg g) w:=by simp[zeroValue,typeInfo,l,hz]
     have h:vX (λi=>(b.map λf=>(f.offset,P.cellsOf f.type))[i]?) g (parts.map λ(i,x)=>(i,f x)).toList=O m:=by simp_all
     simp only[execOp,ho,Instr.build,xr,j,xi,run_underlying n,q,xX,h,xt]
   simp_all
  simp_all
end
end
section
variable[zuV][Drw]
theorem R.zx2 {C:Ctx}{A}{bs:List<|Option Nat}{s:St}{a:Act}{w:World}{b:Nat}{o:Obj}(t)(k)(xs)(h:R {C with A0:=λc=>A c\/c=b} bs s a w)(hb:w.heap[b]?=O o)(hA:¬A b)(hlo:C.w0.heap.size<=b):R {C with A0:=A} (bs++[O b]) ⟨s.T,s.H++[.vec t k xs]⟩ a w:=by
 have hbl:=(yn.1 hb).1;have hnb:O b∉bs:=λhc=>h.own.not b hc<|.inr rfl;have hsub:∀c,c<w.heap.size->Own A (bs++[O b]) c->Own (λc=>A c\/c=b) bs c:=λc _ hc=>by
  rcases hc with hc|hc;·exact .inl<|.inl hc
  ·rcases yu.1 hc with hc|hc;·exact .inr hc
   ·simp only[yK,yo]at hc;exact .inl<|.inr hc
 have hlen:=h.len;refine⟨⟨λi j c hi hj=>?_,λc hc=>?_,λc hc=>?_,λc hc=>h.own.zu5 c<|.inl hc,h.own.glob.fr (Fr.refl zg w) (λ_ x=>x.elim) hsub⟩,by simp_all,λi k hk=>?_,λu v hv=>⟨(h.tmp u v hv).1,V.zvN hlen hsub v _ (h.tmp u v hv).2⟩,h.defers,h.size,h.fr,λc hc=>?_,λp hp=>⟨(h.gh p hp).1,V.zvN hlen hsub p.1 _ (h.gh p hp).2⟩⟩
 ·rcases uH i bs.length with hib|hib
  ·rw[yi hib]at hi;rcases uH j bs.length with hjb|hjb;·rw[yi hjb]at hj;exact h.own.apart i j c hi hj
   grind
  grind
 ·rcases yu.1 hc with hc|hc;·exactλhA'=>h.own.not c hc<|.inl hA'
  simp_all
 ·rcases yu.1 hc with hc|hc;·exact h.own.lt c hc
  simp_all
 ·rcases uH i s.H.length with hi|hi;·rw[yi hi]at hk;exact Blk.zvN hlen hsub i k<|h.blk i k hk
  grind[List.getElem?_append_right,Blk.rep]
 ·rcases yu.1 hc with hc|hc;·exact h.new c hc
  simp_all
theorem R.newVec {C}{bs}{T}{H}{a}{w}(h:R C bs ⟨T,H⟩ a w){cells}{el}{k n cap r}{xs}(hr:r<C.n)(hn:n=xs.length)(hc:cells.size=cap*k)(hnc:n<=cap)(hcm:cap<=maxLen)(hf:D.flat (Own C.A0 bs) w k xs<|cells.toList.take<|n*k):R C (bs++[O w.heap.size]) ⟨(r,.vec H.length n)::T,H++[.vec el k xs]⟩ (a.put (O r)<|.slice (O ⟨w.heap.size,0,Y⟩) n cap)<|w.alloc<|.cells cells el:=by
 have g:Fr zg w<|w.alloc<|.cells cells el:=⟨rfl,rfl,rfl,by simp,λb f _=>xE w _ b f,λ_=>yk _⟩;have i:¬C.A0 w.heap.size:=λm=>absurd (h.own.zu5 _ m)<|by omega
 have l:=h.zvP (A:=λc=>C.A0 c\/c=w.heap.size) g (λb f d=>d.elim id λe=>by omega) λb f=>by
   rcases f with f|rfl;·exact yD (h.own.zu5 b f) g.size
   ·simp
 have o:=R.zx2 (C:=C) el k xs l (heap_alloc_new w _) i h.fr.size;have j:=h.len;refine o.put (Fr.refl _ _) (O r) (by simpa[zvk]using hr) (v:=.vec H.length n) ?_;simp only[V.rep];rw[yP<|yk _];simp only[uw];refine⟨by omega,λ_=>⟨cells.toList.take<|n*k,⟨?_,.inr ⟨w.heap.size,cap,cells,rfl,ym _,heap_alloc_new w _,hnc,hcm,hc,rfl⟩⟩,by grind[xI],?_⟩⟩;·simp_all
 ·refine D.zve g (λ_ x=>x.elim) (λb f d=>?_) xs _ hf;rcases d with d|d;·exact .inl d
  ·rcases yu.1 d with d|d;·exact .inr d
   simp_all
def D.kOK (k:Nat)(d:D):Bool:=match d.shape with|none=>k==1|some n=>n==k
theorem D.zwS {A}{w}{k}{d:D}{v}(h:d.rep A w v)(hk:d.kOK k=U):v.cells.size=k:=by
 unfold D.kOK at hk;split at hk;·rename_i a;rw[D.zvf h a];simp_all
 ·rename_i n a;obtain⟨c,rfl,b⟩:=D.zwP h a;simp only[xX];simp_all
theorem D.zwx {A}{w}{k}:∀{ds}{vs},D.reps A w ds vs->(∀d∈ds,d.kOK k=U)->D.flat A w k ds (vs.flatMap λv=>v.cells.toList)|[],vs,h,_=>by grind[D.reps,D.flat]|d::ds,vs,h,b=>by obtain⟨v,c,rfl,a,e⟩:=h;exact⟨v,_,rfl,D.zwS a<|b d<|by simp,a,D.zwx e λx f=>b x<|by grind⟩
theorem zo6 {k place}(hp:∀i,place i=O (i*k,k)):∀(us:List Value)(m:Nat)(vs:Array Value),(∀u∈us,u.cells.size=k)->(m+us.length)*k<=vs.size->∃r,vX place vs ((us.zipIdx m).map λp=>(p.2,p.1))=O r/\r.toList=vs.toList.take (m*k)++us.flatMap (λv=>v.cells.toList)++vs.toList.drop ((m+us.length)*k)
 |[],m,vs,_,_=>⟨vs,by simp[vX],by simp⟩|u::us,m,vs,hu,hs=>by
  have h1:=hu u (by simp);simp only[yW]at hs;have e0:m*k+k=(m+1)*k:=by grind
  have hle:(m+1)*k<=(m+(us.length+1))*k:=yH _ (by omega);have hfit:m*k+u.cells.size<=vs.size:=by grind
  have e1:=zn7 u.cells vs (m*k) hfit;have hlen:=congrArg xh e1;simp only[yT,ui,ub]at hlen;obtain⟨r,g1,g2⟩:=zo6 hp us (m+1) (u.cells.zipIdx.foldl (λcs(p:Value×Nat)=>cs.setIfInBounds (m*k+p.2) p.1) vs) (λx hx=>hu x<|by grind)<|by grind
  refine⟨r,?_,?_⟩;·simp only[List.zipIdx_cons,yX,vX,hp];simp_all
  ·have el:(vs.toList.take (m*k)++u.cells.toList).length=(m+1)*k:=by grind
   have e2:(m+1)*k<=(m+1+us.length)*k:=yH _ (by omega);rw[g2,e1,h1,e0,<-el,List.take_left,el,List.drop_append,el,wb<|by simp_all,yN,List.drop_drop,show(m+1)*k+((m+1+us.length)*k-(m+1)*k)=(m+(us.length+1))*k by grind,uE];simp_all
theorem zna {α β:Type}:∀(l:List<|Nat×α)(m),l.map (·.1)=wt m l.length->l=((l.map (·.2)).zipIdx m).map λp=>(p.2,p.1)|[],_,_=>rfl|(i,x)::l,m,h=>by simp only[yX,yW,List.range'_succ,wy]at h;obtain⟨rfl,h⟩:=h;simp only[yX,List.zipIdx_cons,wy,true_and];exact zna (β:=β) l (i+1) h
theorem zfy {P}{w}{t el}{i}{z}{k}{us:List Value}(ht:P.underlying t=O (.slice el))(hi:P.info? el=O i)(hz:i.zero=O z)(hk:i.size=k)(hzs:z.cells.size=k)(hu:∀u∈us,u.cells.size=k)(hl:us.length*k<=2^24):∃cells:Array Value,cells.toList=us.flatMap (λv=>v.cells.toList)/\(Instr.buildSlice t us.length ((us.zipIdx 0).map λp=>(p.2,p.1)).toArray).run P w=.ok (.slice (O ⟨w.heap.size,0,Y⟩) us.length us.length) (w.alloc<|.cells cells el):=by
 have b:P.cellsOf el=k:=by grind[vW]
 obtain⟨r,c,f⟩:=zo6 (k:=k) (place:=λi=>O (i*k,k)) (λ_=>rfl) us 0 ((Array.range<|us.length*k).map λx=>(if us.length*k=0 then#[]else z.cells)[x%(if us.length*k=0 then#[]else z.cells).size]!) hu (by simp);refine⟨r,by simp_all,?_⟩;have a:¬us.length*k>2^24:=by omega
 by_cases d:us.length*k=0;·simp only[if_pos d]at c;simp only[Instr.buildSlice,xr,run_underlying ht,xi,run_sizeOf w hi,b,if_neg a,if_pos d,xt,c];rfl
 ·simp only[if_neg d]at c;have e:(zeroValue el).run P w=.ok z w:=by simp[zeroValue,typeInfo,hi,hz]
  simp only[Instr.buildSlice,xr,run_underlying ht,xi,run_sizeOf w hi,b,if_neg a,if_neg d,xt,e,c];rfl
end
section
variable[zuV][Drw]
theorem D.zxC {A w k}:∀{xs}{cs},D.flat A w k xs cs->∀(j)(hj),∃u,D.rep A w xs[j] u/\u.cells.size=k/\∀q,q<k->cs[j*k+q]?=u.cells[q]?
 |[],_,_,j,hj=>absurd hj<|by simp|x::xs,cs,h,0,_=>by
  simp only[D.flat]at h;grind|x::xs,cs,h,j+1,hj=>by
  obtain⟨u,b,rfl,c,_,a⟩:=h;obtain⟨v,e,f,d⟩:=D.zxC a j<|by simp_all
  grind
section
variable{P:Program}{o:Oper}{e:Operand->Option V}{H:List Blk}
theorem D.Les.refls:∀ds,D.Les ds ds|[]=>.nil|d::ds=>.cons (.refl d)<|D.Les.refls ds
theorem OpV.zvz {α:Type}{t el}{len k bytes:Nat}{parts}{enc}{ys}(xs:List α)(ho:o.op=.buildSlice t len parts)(hp:parts.toList.map (·.1)=wt 0 len)(he:zcc P t el k bytes=U)(hx:evs e (parts.toList.map (·.2))=O ys)(hle:D.Les ys<|xs.map enc)(hk:∀x,(enc x).kOK k=U)(hl:xQ (len*k) 16777216=U):OpV P o e H<|.d<|.sl k<|xs.map enc:=by
 obtain⟨htu,hk0,inf,z,hinf,hz,hisz,hib,hzc⟩:=zbN he;refine⟨λA0 bs w f m hf _ _=>?_⟩;have hreps:D.reps (Own A0 bs) w (xs.map enc)<|(parts.toList.map (·.2)).map f:=hle.reps<|zff hx λx hx'=>hf x (by grind[xk]);have hcells:=D.zwx hreps (k:=k) (by intro d hd;obtain⟨x,_,rfl⟩:=y7.1 hd;exact hk x);have hlen:=congrArg xh hp;simp only[yL,List.length_range',yE]at hlen;have hkk:∀u∈(parts.toList.map (·.2)).map f,u.cells.size=k:=by
  intro u hu;obtain⟨i,hi,rfl⟩:=wh hu;have hl2:=D.zva hreps;have hi':i<(xs.map enc).length:=by rw[<-hl2];exact hi
  obtain⟨v,hv,hr⟩:=D.zvF hreps i (xs.map enc)[i]<|yB hi';rw[yB hi]at hv;cases hv;rw[List.getElem_map]at hr;exact D.zwS hr<|hk _
 obtain⟨cells,g1,g2⟩:=zfy (P:=P) (w:=w) (k:=k) htu hinf hz hisz hzc hkk<|by have:=yt hl;simp only[yL,yE,hlen];omega
 have hzip:=zna (β:=D) parts.toList 0 (by simp_all);have harr:(parts.map λ(i,x)=>(i,f x))=((((parts.toList.map (·.2)).map f).zipIdx 0).map λp=>(p.2,p.1)).toArray:=by
  apply Array.ext';rw[vU];conv=>lhs;rw[hzip]
  simp only[List.zipIdx_map,List.map_map];rfl
 have hrun:(execOp f o).run P w=.ok (.value<|.slice (O ⟨w.heap.size,0,Y⟩) len len) (w.alloc<|.cells cells el):=by simp only[yL,yE,hlen]at g2;simp only[execOp,ho,xr,harr,g2,xi,xt]
 rw[hrun];have hfr:Fr zg w<|w.alloc<|.cells cells el:=⟨rfl,rfl,rfl,by simp,λb hb _=>xE w _ b hb,λ_=>yk _⟩;have hxl:(xs.map enc).length=len:=by grind[D.zva]
 refine⟨hfr,?_⟩;simp only[V.rep,D.rep];refine⟨O ⟨w.heap.size,0,Y⟩,len,by grind,by grind,.inr ⟨w.heap.size,0,rfl,λh=>?_,by simp,?_⟩⟩
 ·rcases h with h|h;·exact absurd (m.own.zu5 _ h)<|by omega
  ·exact absurd (m.own.lt _ h)<|by omega
 ·refine D.zvO (A:=Own A0 bs) (λ_ _ h=>h) _ _ 0 (D.zve hfr (λ_ x=>x.elim) (λ_ _ h=>h) _ _ hcells) λj v hv=>?_;rw[zab<|heap_alloc_new w _,ug];grind
theorem OpV.zvv {α:Type}{t el}{len k bytes}{parts}{enc}(xs:List α)(ho:o.op=.buildSlice t len parts)(hp:parts.toList.map (·.1)=wt 0 len)(he:zcc P t el k bytes=U)(hx:evs e (parts.toList.map (·.2))=O (xs.map enc))(hk:∀x,(enc x).kOK k=U)(hl:xQ (len*k) 16777216=U):OpV P o e H<|.d<|.sl k<|xs.map enc:=.zvz xs ho hp he hx (.refls _) hk hl
theorem OpV.lenV {α:Type}{x}{k i n}{l:List α}{enc}{t el el'}(ho:o.op=.call {callee:=.builtin .len,args:=#[x],argTypes:=#[t]})(ht:P.underlying t=O (.slice el))(hx:e x=O (.vec i n))(hi:H[i]?=O (.vec el' k<|l.map enc))(hn:n=l.length):OpV P o e H<|.d<|.int l.length:=.of_same λv s w f _ q=>by
  have j:=q x (by grind[xk,xW]) _ hx;simp only[V.rep,hi]at j;obtain⟨c,p,_⟩:=j.2 (by simp_all);have:∃a b,f x=.slice a n b:=by
   rcases p.2 with⟨h,u⟩|⟨g,b,r,h,_⟩;·simp_all
   simp_all
  obtain⟨a,b,m⟩:=this;subst hn;refine⟨.int .i64 l.length,?_,zt.2 rfl⟩;simp[execOp,ho,resolve,invoke,builtin,tf,m,run_underlying ht,goInt]
theorem OpV.len {α:Type}{x}{k}{l:List α}{enc}{t el}(ho:o.op=.call {callee:=.builtin .len,args:=#[x],argTypes:=#[t]})(ht:P.underlying t=O (.slice el))(hx:e x=O (.d<|.sl k<|l.map enc)):OpV P o e H<|.d<|.int l.length:=by have:=OpV.len_sl (H:=H) ho ht hx;simp_all
theorem OpV.idxV {α}{t el el' x i}{k bi n}{l}{enc}{a}{v:α}(ho:o.op=.indexAddr t x i)(hx:e x=O (.vec bi n))(hb:H[bi]?=O (.vec el' k<|l.map enc))(hn:n=l.length)(hi:e i=O (.d<|.int a))(ht:P.underlying t=O (.slice el))(hs:(P.info? el).map (·.size)=O k)(hv:Go.Proofs.YtipkniadbkndfaaGreatDoor.idx l a=O v):OpV P o e H<|.el bi n a.toNat 0:=by
 obtain⟨j,rfl,xf,rfl⟩:=idxS hv;refine .of_same λG I w f _ y=>?_;have u:=y x (by grind[xk]) _ hx;have B:=zt.1<|y i (by grind[xk]) _ hi;simp only[V.rep,hb]at u;obtain⟨b,r,z,A⟩:=u.2 (by simp_all);rcases r.2 with⟨h,F⟩|⟨g,C,E,s,p⟩;·omega
 cases m:P.info? el with
 |none=>simp_all|some inf=>
  have q:inf.size=k:=by simp_all
  refine⟨.pointer<|O ⟨g,j*k,Y⟩,?_,?_⟩
  ·have c:(0:Int)<=j/\(j:Int)<n:=by omega
   simp only[execOp,ho,s,B,Instr.indexAt,asIntOf,xr,xt,xi,run_underlying ht];rw[if_pos c];simp[sizeOf,typeInfo,m,q,wq]
  ·simp only[V.rep,hb];refine⟨by simp_all,λ_=>⟨f x,b,r,z,A,g,by rw[s];rfl,by simp⟩⟩
theorem zo4 {A0 bs w}{α}{i n off k}{el}{l}{enc}{a}{v:α}{u}(hr:V.rep (Own A0 bs) w bs H (.el i n a.toNat off) u)(hi:H[i]?=O (.vec el k<|l.map enc))(hn:n=l.length)(hv:Go.Proofs.YtipkniadbkndfaaGreatDoor.idx l a=O v):∃b z,u=.pointer (O ⟨b,a.toNat*k+off,Y⟩)/\D.rep (Own A0 bs) w (enc v) z/\zdr w b (a.toNat*k) z:=by
 obtain⟨j,rfl,x,rfl⟩:=idxS hv;simp only[V.rep,hi]at hr;obtain⟨s,e,m,t,o,b,f,p⟩:=hr.2 (by simp_all);obtain⟨z,y,A,h⟩:=D.zxC o j (by simp_all);refine⟨b,z,p,by simp_all,λq r=>?_⟩;have d:=h q (by omega);have c:=um r;rw[c]at d;have:=m.cells (g:=b) f _ _ d;grind[vT]
theorem OpV.loadEl {α}{t el x}{i n k}{s}{l}{enc}{a}{v:α}(ho:o.op=.load t x)(hx:e x=O (.el i n a.toNat 0))(hi:H[i]?=O (.vec el k<|l.map enc))(hn:n=l.length)(hv:Go.Proofs.YtipkniadbkndfaaGreatDoor.idx l a=O v)(ht:zan P t=O s)(hk:(enc v).shape=s):OpV P o e H<|.d<|enc v:=.of_same λp q w f _ m=>by have h:=m x (by grind[xk]) _ hx;obtain⟨b,z,c,j,g⟩:=zo4 h hi hn hv;refine⟨z,?_,by grind[V.rep]⟩;simp only[uv]at c;simp only[execOp,ho,c,xr,zcC ht j hk g,xi,xt]
theorem OpV.loadElF {α}{t el x}{i n k off}{s}{l}{enc}{a}{v:α}{cs y}(ho:o.op=.load t x)(hx:e x=O (.el i n a.toNat off))(hi:H[i]?=O (.vec el k<|l.map enc))(hn:n=l.length)(hv:Go.Proofs.YtipkniadbkndfaaGreatDoor.idx l a=O v)(ht:zan P t=O s)(hcs:enc v=.agg cs)(hp:zlS cs off s=O y)(hk:y.shape=s):OpV P o e H<|.d y:=.of_same λxf E w f _ I=>by have G:=I x (by grind[xk]) _ hx;obtain⟨b,z,h,r,B⟩:=zo4 G hi hn hv;rw[hcs]at r;obtain⟨A,rfl,q⟩:=r;have F:=D.zva q;simp only[yE]at F;cases s with
  |none=>
   obtain⟨u,K,c⟩:=D.zvF q off y hp;refine⟨u,?_,by grind[V.rep]⟩;have p:off<A.size:=by grind
   have g:zdr w b (a.toNat*k+off) u:=by
    rw[zdr,D.zvf c hk];intro j L;have C:j=0:=by simp_all
    have:=B off p;simp only[xX]at this;simp_all
   simp only[execOp,ho,h,xr,zcC ht c hk g,xi,xt]|some m=>
   simp only[zlS]at hp;split at hp
   ·cases hp;have g:=zhx B off m (by omega);have c:D.rep (Own xf E) w (.agg<|(cs.drop off).take m)<|.agg ((A.toList.drop off).take m).toArray:=by exact⟨_,rfl,by grind[D.zwd,D.zwc]⟩
    refine⟨_,?_,by simp only[V.rep];omega⟩;simp only[execOp,ho,h,xr,zcC ht c hk g,xi,xt]
   simp_all
theorem OpV.fieldEl {t el x i n j off f o1 k s xs}(ho:o.op=.fieldAddr t x f)(hx:e x=O (.el i n j off))(hi:H[i]?=O (.vec el k xs))(hn:n=xs.length)(hf:zwA P t f=O (o1,s)):OpV P o e H<|.el i n j<|off+o1:=.of_same λA0 bs w g _ hw=>by
  have h1:=hw x (by grind[xk]) _ hx;simp only[V.rep,hi]at h1;obtain⟨hdr,l,A,g2,g3,b,g4,hp⟩:=h1.2 hn;refine⟨.pointer<|O ⟨b,j*k+off+o1,Y⟩,?_,by grind[V.rep,Nat.add_assoc]⟩;unfold zwA at hf;split at hf
  ·rename_i z hut;split at hf
   ·rename_i fl d;split at hf
    ·split at hf<;>rename_i v;·simp only[yo,yh]at hf;obtain⟨rfl,rfl⟩:=hf;cases hinf:P.info? fl.type with
      |none=>simp_all|some inf=>
       have h:inf.size≠0:=by simp_all
       simp[execOp,ho,hp,Instr.fieldAt,run_underlying hut,d,wj,fieldPlace,sizeOf,typeInfo,hinf,h,wq]
     simp_all
    simp_all
   simp_all
  simp_all
end
end
section
variable[zuV][Drw]
theorem D.zyQ {A w k}:∀{xs}{cs},D.flat A w k xs cs->∀(j),j<xs.length->∀{x}{u},D.rep A w x u->u.cells.size=k->D.flat A w k (xs.set j x) (cs.take (j*k)++u.cells.toList++cs.drop (j*k+k))
 |[],_,_,j,b,_,_,_,_=>absurd b<|by simp|y::xs,cs,h,0,_,x,u,c,d=>by
  obtain⟨v,a,rfl,f,_,g⟩:=h;simp only[wP,D.flat];grind|y::xs,cs,h,j+1,b,x,u,c,d=>by
  obtain⟨v,a,rfl,f,i,g⟩:=h;refine⟨v,_,?_,f,i,D.zyQ g j (by simp_all) c d⟩;have e:(j+1)*k=v.cells.toList.length+j*k:=by grind
  rw[e,List.take_length_add_append,Nat.add_assoc,List.drop_length_add_append];simp_all
theorem stoS {α}{l}{i}{x}{r:List α}(h:sto l i x=O r):∃n:Nat,i=(n:Int)/\n<l.length/\r=l.set n x:=by unfold sto at h;grind
theorem TriL.zwh {P C ops o rest Q T H}{α:Type}{t el x y}{i n k:Nat}{enc:α->D}{l r:List α}{z:α}{a:Int}(hg:o.guard=Y)(ho:o.op=.store t x y)(hd:o.dst=Y)(hx:ev T x=O (.el i n a.toNat 0))(hi:H[i]?=O (.vec el k<|l.map enc))(hn:n=l.length)(hy:ev T y=O (.d<|enc z))(hk:(enc z).kOK k=U)(h1:(enc z).ones=U)(hs:cellsOf P t=O k)(hv:sto l a z=O r)(kk:TriL P C ops rest Q ⟨T,H.set i<|.vec el k<|r.map enc⟩):TriL P C ops (o::rest) Q ⟨T,H⟩:=by
 obtain⟨j,rfl,hj,rfl⟩:=stoS hv;refine TriL.step hg (λbs a w hR=>?_) kk;have hp:=hR.ev hx;have hz:=hR.ev hy;simp only[V.rep]at hz;simp only[V.rep,hi]at hp;obtain⟨hdr,cells,g1,g2,g3,b,g4,g5⟩:=hp.2 (by simpa using hn);simp only[yr,uv]at g5;rcases g1.2 with⟨h,h0⟩|⟨g,cap,cur,hh,_,hheap,hnc,hcm,hcs,htake⟩;·omega
 obtain rfl:g=b:=by rw[hh]at g4;simpa[xI]using g4
 have hsz:=D.zwS hz hk;have hone:∀c∈(wG a y).cells.toList,c.oneCell'=true:=D.zwU hz h1;have hjk:j*k+k<=n*k:=by rw[<-uz];exact yH _<|by omega
 have hnk:n*k<=cap*k:=yH _ hnc;have hst:=run_storeCells_at P g (j*k) el (wG a y).cells.toList 0 cur w hheap (by simp[hsz,hcs];omega) hone;simp only[uv,yE]at hst;unfold cellsOf at hs;cases hinf:P.info? t with
 |none=>simp[hinf]at hs|some inf=>
  simp only[hinf,yQ,yo]at hs;have hsz':(wG a y).cells.size=inf.size:=by omega
  have hrun:(execOp a.eval o).run P w=.ok .skip (w.setRow g (cur.toList.take (j*k)++(wG a y).cells.toList++cur.toList.drop (j*k+(wG a y).cells.size)).toArray):=by simp only[execOp,ho,g5,Instr.storeAt,wj,storeVar,sizeOf,typeInfo,program,xr,Sem.run,hinf,xt,xi,hsz',ne_eq,not_true_eq_false,if_false];rw[hsz']at hst;simp[hst]
  have hfr:Fr (λc=>O g=O c) w<|w.setRow g (cur.toList.take (j*k)++(wG a y).cells.toList++cur.toList.drop (j*k+(wG a y).cells.size)).toArray:=⟨rfl,rfl,rfl,by simp,λc _ hno=>setRow_other w g c _ λe=>hno<|by rw[e],λ_=>yk _⟩;have hset:bs.set i (O g)=bs:=by
   refine ua λq=>?_;by_cases hij:i=q;·subst hij;rw[yy (yd.1 g2).1,g2,g4]
   ·rw[yx hij]
  have hWA:∀c,O g=O c->Own C.A0 bs c:=λc hc=>.inr<|by rw[<-hc];rw[g4]at g2;exact yC g2
  have hupd:=R.upd (y:=.vec el k<|(l.set j z).map enc) (c:=O g) (c':=O g) hR hi (by rw[g2,g4]) (by
   simp only[Compat];refine .inr ⟨by simp,trivial,trivial,λv cells' q1 q2 q3=>?_⟩;rcases q1.2 with⟨h,h0⟩|⟨g',cap',cur',hh',_,hheap',hnc',hcm',hcs',htake'⟩;·simp only[yL]at h0;omega
   obtain rfl:g=g':=by rw[hh']at q2;simpa[xI]using q2
   rw[hheap]at hheap';cases hheap';have hn':(l.map enc).length=n:=by simp[hn]
   rw[hn']at htake' q1 hnc'|-;have hcells:cells'=cells:=by rw[<-htake',<-htake]
   subst hcells;have hfl:D.flat (Own C.A0 bs) w k ((l.map enc).set j<|enc z)<|cells'.take (j*k)++(wG a y).cells.toList++cells'.drop (j*k+k):=D.zyQ q3 j (by simpa using hj) hz hsz;refine⟨_,⟨?_,.inr ⟨g,cap',_,by rw[hh',hn'],ym _,setRow_heap w g cur _ el _ hheap,hnc',hcm',?_,?_⟩⟩,D.zve hfr hWA (λc _ hc=>by rw[hset]at hc;exact hc) _ _<|by rw[List.map_set];exact hfl⟩;·have:=q1.1;simp only[yT,ui,ub,yE,hsz];omega
   ·grind
   ·rw[hsz,<-htake];have l1:(cur.toList.take<|j*k).length=j*k:=by grind
    have l2:(cur.toList.take (j*k)++(wG a y).cells.toList).length=j*k+k:=by simp only[yT,l1,yE,hsz]
    rw[List.take_append,l2,xV<|by rw[l2];exact hjk,List.take_take,vh<|by omega,List.drop_take]) hfr (.inl rfl)<|by grind[Blk.rep]
  refine⟨_,_,bs,hrun,.inr ⟨rfl,?_⟩⟩;rw[hset]at hupd;rw[hd];exact hupd
theorem appS {α}{b}{xs ys zs:List α}(h:app b xs ys=O zs):zs=xs++ys/\(xs.length+ys.length)*b<=140737488355328:=by unfold app at h;simp_all
theorem TriL.app {P:Program}{C:Ctx}{ops:Array Oper}{o:Oper}{rest:List Oper}{Q:Exit->St->Prop}{T:List<|Nat×V}{H:List Blk}{α:Type}{x y:Operand}{t el:TypeId}{i n k bytes d:Nat}{enc:α->D}{xs ys zs:List α}(hg:o.guard=Y)(ho:o.op=.call {callee:=.builtin .append,args:=#[x,y],argTypes:=#[t,t]})(hd:o.dst=O d)(hdn:xA d C.n=U)(hx:ev T x=O (.vec i n))(hi:H[i]?=O (.vec el k<|xs.map enc))(hn:n=xs.length)(hy:ev T y=O (.d<|.sl k<|ys.map enc))(ht:zcc P t el k bytes=U)(hb:xA 0 bytes=U)(hones:∀z,(enc z).ones=U)(hv:Go.Proofs.YtipkniadbkndfaaGreatDoor.app bytes xs ys=O zs)(kk:TriL P C ops rest Q ⟨(d,.vec i zs.length)::T,H.set i<|.vec el k<|zs.map enc⟩):TriL P C ops (o::rest) Q ⟨T,H⟩:=by
 obtain⟨rfl,L⟩:=appS hv;simp only[uG]at hb;have a2:xs.length+ys.length<=maxLen:=by
  have:xs.length+ys.length<=(xs.length+ys.length)*bytes:=wV _ hb;grind[maxLen]
 by_cases E:ys=[]
 ·subst E;obtain⟨G,W,xe,z,j,xa,xf,xd,X⟩:=zbN ht;refine TriL.step hg (s':=⟨(d,.vec i (xs++[]).length)::T,H⟩) (λbs a w B=>?_)<|by
   have e:H.set i (.vec el k<|(xs++[]).map enc)=H:=by
    refine ua λq=>?_;grind
   simp_all
  have m:=B.ev hx;have K:=B.ev hy;have s:=m;simp only[V.rep,hi]at m;obtain⟨_,m⟩:=m;obtain⟨u,c,N,A⟩:=m (by simp_all);simp only[V.rep,D.rep]at K;obtain⟨S,xb,l,_⟩:=K;have F:∃b r,a.eval x=.slice b n r/\n<=r:=by
   rcases c.2 with⟨h,h0⟩|⟨g,r,a0,h,_,_,xc,_⟩;·grind
   grind
  obtain⟨b,r,I,p⟩:=F;simp only[wz,ul]at l;have f:(execOp a.eval o).run P w=.ok (.value<|a.eval x) w:=by simp only[execOp,ho,resolve,invoke,builtin,xr,xt,xi];simp only[List.map_toArray,yX,wz];rw[I,l];cases S<;>cases b<;>simp[Builtin.append_,run_underlying G,sizeOf,typeInfo,j,u4,Builtin.firstCells,loadCells,loadCellsFrom,p,storeCells]
  refine⟨_,w,bs,f,.inl ⟨_,rfl,?_⟩⟩;have:=R.put B (Fr.refl _ _) (O d) (by grind[zvk]) (v:=.vec i n) s;grind[St.put]
 ·refine TriL.append hg ho hd hdn hx hi (by simp_all) hy ht (by simp_all) (λz xa=>by grind) (by simp_all) (by simp_all) ?_;simp_all
end
section
variable[zuV][Drw]
inductive zyu (T:List<|Nat×V)(H:List Blk)(ids:List Nat):List (Nat×D)->Prop|nil:zyu T H ids []|cons{t:Nat}{v:V}{d:D}{r:List<|Nat×D}:look t T=O v->FrzI H ids v d->zyu T H ids r->zyu T H ids ((t,d)::r)
def frzT:List (Nat×D)->List (Nat×V)->List (Nat×V)|[],T=>T|(t,d)::r,T=>(t,.d d)::frzT r T
theorem R.zvx {C bs T H a w}(h:R C bs ⟨T,H⟩ a w){ids}:∀{ds},zyu T H ids ds->R C (znA ids bs) ⟨frzT ds T,Go.Proofs.YtipkniadbkndfaaGreatDoor.zvR ids H⟩ a w
 |_,.nil=>R.zvR ids h|_,.cons (t:=t) (v:=v) (d:=d) m n r=>by
  have o:=R.zvx h r;obtain⟨k,l⟩:=h.tmp t v m;refine o.know k ?_;have e:∀b,Own C.A0 (znA ids bs) b->Own C.A0 bs b:=λb c=>c.imp id λc=>by obtain⟨i,f⟩:=wU c;exact yC (zi8 ids bs i b f).2
  refine FrzI.rep h.mem (λb _ c=>e b c) (λi b p f c=>?_) n _ l;rcases c with c|c;·exact h.own.not b (yC f) c
  ·obtain⟨j,q⟩:=wU c;obtain⟨s,g⟩:=zi8 ids bs j b q;have:=h.own.apart i j b f g;grind
theorem Tri.zvx {P C c Q T H}(ids){ds}(hf:zyu T H ids ds)(k:Tri P C c Q ⟨frzT ds T,zvR ids H⟩):Tri P C c Q ⟨T,H⟩:=⟨λ_ a w b=>k.run _ a w<|b.zvx hf⟩
theorem TriL.zvx {P C ops rest Q T H}(ids){ds}(hf:zyu T H ids ds)(k:TriL P C ops rest Q ⟨frzT ds T,zvR ids H⟩):TriL P C ops rest Q ⟨T,H⟩:=⟨λ_ a w b=>k.run _ a w<|b.zvx hf⟩
theorem zwN.ofD {H d}(h:d.ones=U):zwN H<|V.zvi<|.d d:=by
 have a:∀ds:List D,ds.all D.one=U->zwN H (ds.map .d):=by
  intro ds;induction ds with|nil=>exactλ_=>.nil|cons x xs ih=>intro h;simp only[uk,yc]at h;exact .cons (.d h.1)<|ih h.2
 cases d with
 |agg ds=>exact a ds h|val v=>cases v<;>first|exact .cons (.d h) .nil|grind[D.ones,D.one]
 |_=>first|exact .cons (.d h) .nil|grind
theorem zwI.cells {P t d}(hz:zwI P t d)(h1:d.ones=U):∃z,zbS P t=O z/\∀A w bs H,V.reps A w bs H (V.zvi<|.d d) z.cells.toList:=by
 obtain⟨z,h,a⟩:=hz.out;grind[V.zxJ,V.rep,zwN.ofD]
theorem R.reblk {C bs T H a w i t cs cs'}(h:R C bs ⟨T,H⟩ a w)(hi:H[i]?=O (.box t cs))(hr:∀A bs H vs,V.reps A w bs H cs vs->V.reps A w bs H cs' vs):R C bs ⟨T,H.set i<|.box t cs'⟩ a w:=by
 have f:=h.blk i _ hi;obtain⟨b,vs,n,o,d⟩:=f;have m:bs.set i (O b)=bs:=by
  refine ua λj=>?_;grind
 have e:Fr (λc=>O b=O c) w w:=Fr.refl _ w;have g:∀c,O b=O c->Own C.A0 bs c:=λc k=>.inr<|by grind
 have l:=R.upd (y:=.box t cs') (c':=O b) h hi n (by simp[Compat]) e (.inl rfl)<|by
  refine⟨b,vs,by grind,o,?_⟩;have:=V.zwm (x:=.box t cs) (y:=.box t cs') (c:=O b) (c':=O b) (A':=Own C.A0<|bs.set i<|O b) hi n (by simp[Compat]) h.own.apart e g (λc k=>k) (λc _ k=>by grind) cs vs.toList d;grind
 grind
theorem zlx {P t d}(hz:zwI P t d)(h1:d.ones=U){A w bs H vs}(h:V.reps A w bs H (zeroCells P t) vs):V.reps A w bs H (V.zvi<|.d d) vs:=by
 obtain⟨z,c,e⟩:=hz.cells h1;unfold zeroCells at h;have a:∀(l vs:List Value),V.reps A w bs H (l.map λv=>.d<|.val v) vs->vs=l:=by
  intro l;induction l with
  |nil=>grind[V.reps]|cons x l ih=>
   intro vs h;obtain⟨v,b,rfl,h1,f⟩:=h;grind[zt]
 grind
theorem TriL.rezero {P C ops rest Q T H}(i){t d}(hi:H[i]?=O (.box t<|zeroCells P t))(hz:zwI P t d)(h1:d.ones=U)(k:TriL P C ops rest Q ⟨T,H.set i<|.box t<|V.zvi<|.d d⟩):TriL P C ops rest Q ⟨T,H⟩:=⟨λ_ a w b=>k.run _ a w<|b.reblk hi λ_ _ _ _ h=>zlx hz h1 h⟩
theorem TriL.zv3 {P}{C}{ops}{o:Oper}{rest}{Q}{T}{H}{t}{r:Nat}{d}(hg:o.guard=Y)(ho:o.op=.alloc t)(hd:o.dst=O r)(hn:xA r C.n=U)(hz:zwI P t d)(h1:d.ones=U)(k:TriL P C ops rest Q ⟨(r,.loc H.length 0)::T,H++[.box t<|V.zvi<|.d d]⟩):TriL P C ops (o::rest) Q ⟨T,H⟩:=by
 obtain⟨z,a,_⟩:=hz.out;refine TriL.alloc hg ho hd hn a ?_;refine TriL.rezero H.length (d:=d) (t:=t) (by grind[zeroCells]) hz h1 ?_;grind
def D.scal:D->Bool|.val _=>U|.agg cs=>D.scals cs|.tup cs=>D.scals cs|_=>M where D.scals:List D->Bool|[]=>U|d::ds=>D.scal d&&D.scals ds
mutual
theorem D.zxF {A A' w w'}:∀{d:D},d.scal=U->∀{v:Value},d.rep A w v->d.rep A' w' v|.val x,_,v,h=>by simpa only[D.rep]using h|.agg cs,hs,v,h=>by simp only[D.rep]at h|-;obtain⟨vs,e,hr⟩:=h;exact⟨vs,e,D.zxr (by simpa[D.scal]using hs) hr⟩|.tup cs,hs,v,h=>by simp only[D.rep]at h|-;obtain⟨vs,e,hr⟩:=h;exact⟨vs,e,D.zxr (by simpa[D.scal]using hs) hr⟩|.sl _ _,hs,_,_=>by simp[D.scal]at hs|.ref _,hs,_,_=>by simp[D.scal]at hs|.fn _ _ _,hs,_,_=>by simp[D.scal]at hs|.mp _ _,hs,_,_=>by simp[D.scal]at hs|.err,hs,_,_=>by simp[D.scal]at hs|.osl _ _,hs,_,_=>by simp[D.scal]at hs
theorem D.zxr {A A' w w'}:∀{ds:List D},D.scal.D.scals ds=U->∀{vs:List Value},D.reps A w ds vs->D.reps A' w' ds vs|[],_,vs,h=>by simpa only[D.reps]using h|d::ds,hs,vs,h=>by simp only[D.scal.D.scals,yc]at hs;simp only[D.reps]at h|-;obtain⟨v,vs',e,h1,h2⟩:=h;exact⟨v,vs',e,D.zxF hs.1 h1,D.zxr hs.2 h2⟩
end
section
variable{P:Program}{o:Oper}{e:Operand->Option V}{H:List Blk}
inductive Lent (e:Operand->Option V)(H:List Blk):List Operand->List D->Prop|nil:Lent e H [] []|cons{x:Operand}{v:V}{d:D}{xs:List Operand}{ds:List D}:e x=O v->Frz H v d->Lent e H xs ds->Lent e H (x::xs) (d::ds)
theorem Lent.reps {A0 bs w}(m:Mem A0 bs H w){f}:∀{xs}{ds},Lent e H xs ds->(∀x∈xs,∀y,e x=O y->V.rep (Own A0 bs) w bs H y (f x))->D.reps A0 w ds (xs.map f)|_,_,.nil,_=>by simp[D.reps]|_,_,.cons d c r,a=>by exact⟨_,_,rfl,Frz.rep m c _<|a _ (by simp) _ d,r.reps m λy b=>a y<|by simp[b]⟩
theorem OpV.callB {f args tys xs y}(ho:o.op=.call {callee:=.value<|.func f,args:=args,argTypes:=tys})(hc:zu0 P f=U)(ha:Lent e H args.toList xs)(hy:y.scal=U)(hp:Pure P f xs y):OpV P o e H<|.d y:=by
 refine⟨λj v w g m k _ p=>?_⟩;have c:(execOp g o).run P w=.ok (.enter f<|args.map g) w:=by
  simp only[execOp,ho,resolve,p,xY,invoke];grind[za7]
 rw[c];have a:D.reps j w xs (args.map g).toList:=by have:=ha.reps (w:=w) (f:=g) m λx t=>k x (by grind[xk,xW]);simp_all
 exact(hp.run j w (args.map g) (λb n=>m.own.zu5 b n) (m.own.glob.fr (Fr.refl zg w) (λ_ x=>x.elim) λ_ _ h=>.inl h) a).mono λr s⟨u,l,i,q⟩=>⟨u,l,i,by grind[V.rep,D.zxF]⟩
structure Dyn (P:Program)(F:D)(xs:List D)(y:D):Prop where ex:∃g caps,F=.fn (.func g) [] caps/\zu0 P g=U/\Pure P g (xs++caps) y
theorem OpV.makeFunc {g cs ds}(ho:o.op=.makeFunc (.func g) #[] cs)(hc:evs e cs.toList=O ds):OpV P o e H<|.d<|.fn (.func g) [] ds:=.of_same λb bs w f _ a=>by refine⟨.func (.func g) #[]<|cs.map f,by simp[execOp,ho,Instr.makeFunc],?_⟩;refine⟨#[],cs.map f,rfl,by simp[D.reps],?_⟩;have:=zff (A:=Own b bs) (w:=w) (bs:=bs) (f:=f) hc λx c=>a x (by grind[xk]);simp_all
theorem OpV.dyn {x args tys F xs y}(ho:o.op=.call {callee:=.value x,args:=args,argTypes:=tys})(hx:e x=O (.d F))(ha:evs e args.toList=O xs)(hp:Dyn P F xs y):OpV P o e H<|.d y:=by
 obtain⟨g,c,rfl,G,hp⟩:=hp.ex;refine⟨λk bs w f m q _ z=>?_⟩;have s:=q x (by grind[xk,xW]) _ hx;obtain⟨t,l,I,j,p⟩:=s;simp only[D.reps]at j;have r:t=#[]:=by grind
 have h:(execOp f o).run P w=.ok (.enter g<|args.map f++l) w:=by grind[execOp,resolve,xY,invoke,za7]
 rw[h];have a:D.reps (Own k bs) w (xs++c) (args.map f++l).toList:=by have:=zff (A:=Own k bs) (w:=w) (bs:=bs) (f:=f) ha λx hx=>q x (by grind[xk,xW]);have:=D.zvo this p;simp_all
 refine(hp.run (Own k bs) w (args.map f++l) (λb i=>?_) m.own.glob a).mono λC E⟨u,v,n,B⟩=>⟨u,v,n,by grind[V.rep]⟩;rcases i with i|i;·exact m.own.zu5 b i
 ·exact m.own.lt b i
end
end
section
variable[zuV][Drw]
def over:List Blk->List (Nat×Blk)->List Blk|H,[]=>H|H,(i,b)::r=>over (H.set i b) r
theorem zmT:∀(L:List<|Nat×Blk)(H:List Blk),(over H L).length=H.length|[],_=>rfl|(i,b)::r,H=>by rw[over,zmT r];simp
section
variable{P:Program}{C:Ctx}{Q:Exit->St->Prop}{s:St}
theorem Tri.zu7 {R:Type}{c x y}{b:Bool}{m n:Option R}{r:R}(hc:ev s.T c=O (.d<|.bool b))(h:(if b=U then m else n)=O r)(ht:m=O r->Tri P C x Q s)(hf:n=O r->Tri P C y Q s):Tri P C (.cond c x y) Q s:=.cond hc (λhb=>ht<|iteT hb h) λhb=>hf<|iteF hb h
def zxe {σ R:Type}(k:σ->Option R)(r:R)(xf:σ->St)(Q:Exit->St->Prop):Exit->St->Prop|.normal,s=>∃v,k v=O r/\s.ge (xf v)|e,s=>Q e s
theorem Tri.join {σ R:Type}{x y}{k:σ->Option R}{m:(σ->Option R)->Option R}{r:R}(ks:List Nat){K}(upd:σ->List (Nat×V))(hf:σ->List (Nat×Blk))(_hK:Looks s.T ks K)(h:jn k m=O r)(hm:∀k':σ->Option R,m k'=O r->Tri P C x (zxe k' r (λv=>⟨upd v++K,over s.H<|hf v⟩) Q) s)(hk:∀v,k v=O r->Tri P C y Q ⟨upd v++K,over s.H<|hf v⟩)(hgn:xQ C.gn s.H.length=true:=by exact rfl):Tri P C (.seq x y) Q s:=by
 refine .seq<|Tri.mono (hm k h) λe s' hq=>?_;cases e<;>simp only[zxe,zxi]at hq|-;case normal=>obtain⟨v,hv,hg⟩:=hq;exact Tri.ge hg (hk v hv)<|by simp only[zmT];exact hgn
 all_goals exact hq
theorem Tri.loopS {σ R:Type}{c}{body:(σ->Option R)->σ->Option R}{n:Nat}{init:σ}{r:R}(ks:List Nat){K}(upd:σ->List (Nat×V))(hf:σ->List (Nat×Blk))(_hK:Looks s.T ks K)(h:zuR body n init=O r)(h0:s.ge ⟨upd init++K,over s.H<|hf init⟩)(hb:∀(rec:σ->Option R)(v:σ),body rec v=O r->Tri P C c (zxe rec r (λv=>⟨upd v++K,over s.H<|hf v⟩) Q) ⟨upd v++K,over s.H<|hf v⟩)(hgn:xQ C.gn s.H.length=true:=by exact rfl):Tri P C (.loop c) Q s:=by
 refine Tri.loopP n (λi s'=>∃u,zuR body (n-i) u=O r/\s'.ge ⟨upd u++K,over s.H<|hf u⟩) ⟨init,by simpa using h,h0⟩ λi s' hi hs=>?_;obtain⟨u,hu,hg⟩:=hs;refine Tri.ge hg ?_ (by simp only[zmT];exact hgn);cases hni:n-i with|zero=>rw[hni]at hu;simp[zuR]at hu|succ m=>
  rw[hni]at hu;simp only[zuR]at hu;refine Tri.mono (hb _ u hu) λe s'' hq=>?_;cases e<;>simp only[zxe,zxi]at hq|-;case normal=>obtain⟨v',hv',hg'⟩:=hq;exact⟨by omega,v',by rw[show n-(i+1)=m by omega];exact hv',hg'⟩
  all_goals exact hq
end
theorem zgm {P:Program}{t:Tmp}{y:D}{v:V}{s:St}(h:look t s.T=O v)(hf:Frz s.H v y):retQ P #[.tmp t] y .ret s:=⟨.inl rfl,[y],rfl,y,[],v,rfl,h,hf,rfl⟩
theorem zrw {P:Program}{t:Tmp}{ty:TypeId}{ds:List D}{i:Nat}{T:TypeId}{cs:List V}{s:St}(h:look t s.T=O (.loc i 0))(hi:s.H[i]?=O (.box T cs))(hs:zan P ty=O (O ds.length))(hf:Frzs s.H cs ds):retQ P #[.cell t ty] (.agg ds) .ret s:=⟨.inl rfl,[.agg ds],rfl,.agg ds,[],i,T,cs,rfl,h,hi,hs,.loc hi hf,rfl⟩
theorem zs5 {P:Program}{t u:Tmp}{x y:D}{v w:V}{s:St}(h1:look t s.T=O v)(h2:look u s.T=O w)(f1:Frz s.H v x)(f2:Frz s.H w y):retQ P #[.tmp t,.tmp u] (.tup [x,y]) .ret s:=⟨.inl rfl,[x,y],rfl,x,[y],v,rfl,h1,f1,y,[],w,rfl,h2,f2,rfl⟩
theorem zj9 {P:Program}{t u q:Tmp}{x y z:D}{v w a:V}{s:St}(h1:look t s.T=O v)(h2:look u s.T=O w)(h3:look q s.T=O a)(f1:Frz s.H v x)(f2:Frz s.H w y)(f3:Frz s.H a z):retQ P #[.tmp t,.tmp u,.tmp q] (.tup [x,y,z]) .ret s:=⟨.inl rfl,[x,y,z],rfl,x,[y,z],v,rfl,h1,f1,y,[z],w,rfl,h2,f2,z,[],a,rfl,h3,f3,rfl⟩
theorem zeQ {P:Program}{t u:Tmp}{ty:TypeId}{ds:List D}{i:Nat}{T:TypeId}{cs:List V}{y:D}{v:V}{s:St}(h:look t s.T=O (.loc i 0))(hi:s.H[i]?=O (.box T cs))(hs:zan P ty=O (O ds.length))(hf:Frzs s.H cs ds)(h2:look u s.T=O v)(f2:Frz s.H v y):retQ P #[.cell t ty,.tmp u] (.tup [.agg ds,y]) .ret s:=⟨.inl rfl,[.agg ds,y],rfl,.agg ds,[y],i,T,cs,rfl,h,hi,hs,.loc hi hf,y,[],v,rfl,h2,f2,rfl⟩
theorem zsw {P:Program}{t:Tmp}{ty:TypeId}{d:D}{i:Nat}{T:TypeId}{c:V}{s:St}(h:look t s.T=O (.loc i 0))(hi:s.H[i]?=O (.box T [c]))(hs:zan P ty=O Y)(hf:Frz s.H c d)(h1:d.shape=none:=by rfl):retQ P #[.cell t ty] d .ret s:=⟨.inl rfl,[d],rfl,d,[],i,T,[c],rfl,h,hi,by rw[hs,h1],.loc1 hi hf h1,rfl⟩
end
