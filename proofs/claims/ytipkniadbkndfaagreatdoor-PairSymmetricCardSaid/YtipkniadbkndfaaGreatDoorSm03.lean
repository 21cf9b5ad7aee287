/- Part of the proof of one law of the seat. -/
import Derived.Test.YtipkniadbkndfaaGreatDoorSm02
import Derived.Test.YtipkniadbkndfaaGreatDoorProg
import Derived.KernelRfl
import Derived.Deep.Slices
import Derived.WideKeyArgs
import Derived.OpenShut
import Derived.Test.YtipkniadbkndfaaGreatDoorRows
import Derived.Lib.LaidTab
import Derived.Lib.LaidU8
import Derived.Stop.LaidErr
import Derived.MakeChecks
set_option linter.all false
set_option maxRecDepth 100000
set_option maxHeartbeats 40000000
namespace Go.Proofs.YtipkniadbkndfaaGreatDoor
open Go Go.RowKit
open Option renaming some->O,none->Y
open Bool renaming true->U,false->M,eq_iff_iff->xP
open Decidable renaming decide->Z
open Inhabited renaming default->J
open Go.Op renaming operands->xj
open V renaming rep->xk
open List renaming range->xm,map->xn,range'->ws,map_nil->wB,head_eq_of_cons_eq->vF
open Tree renaming enc->xo
open D renaming bool->xp,int->xt,reps->xu,rep->xC,str->wL
open Range renaming enc->xy
open Fr renaming refl->xz
open Nat renaming blt->xA,ble->xQ,eq_of_beq_eq_true->wU,beq->vf
open zvx renaming gs->xI
open _root_.Go.Proofs.YtipkniadbkndfaaGreatDoor.Row renaming enc->xM
open Model renaming enc->xR
open Table renaming enc->wm
open Go.Region renaming wanted->wq
open Constraint renaming enc->wu
open Step renaming enc->wA
open List.cons renaming injEq->wI
open Term renaming enc->wQ
open Action renaming enc->wR
open Go.Value renaming string->wS,int->wW
open Go.World renaming cell?_of_block->wY
open Blk renaming under->vl
open Go.Proofs.Tryz renaming prog->xg
noncomputable abbrev pg:=xg
abbrev eA l:=D.sl 1<|xn wL l
abbrev eB l:=D.sl 1<|xn xt l
abbrev eC l:=D.sl 2<|xn xy l
abbrev eD l:=D.sl 6<|xn wm l
abbrev eE l:=D.sl 6<|xn wu l
abbrev eF l:=D.sl 3<|xn zvX.enc l
abbrev eG l:=D.sl 5<|xn wR l
abbrev eH l:=D.sl 3<|xn Hide.enc l
abbrev eI l:=D.sl 2<|xn wQ l
abbrev eJ l:=D.sl 1<|xn eB l
abbrev eK l:=D.sl 1<|xn xp l
abbrev eL l:=D.sl 2<|xn xM l
abbrev eM l:=D.sl 3<|xn zvP.enc l
abbrev eN l:=D.sl 1<|xn eL l
abbrev eO l:=D.sl 4<|xn Token.enc l
theorem D.Les.e {d:D}{a b:List D}(h:D.Les a b):D.Les (d::a)<|d::b:=.cons (.refl _) h
theorem D.Les.o {k:Nat}{a b:List D}(h:D.Les a b):D.Les (.val (.slice Y 0 0)::a)<|.sl k []::b:=.cons (.nil _) h
theorem D.Les.e1 {d:D}:D.Les [d] [d]:=.e .nil
theorem D.Les.o1 {k:Nat}:D.Les [.val<|.slice Y 0 0] [.sl k []]:=.o .nil
theorem zxn.v {H:List Blk}{ids:List Nat}{d:D}{a:List V}{b:List D}(h:zxn H ids a b):zxn H ids (.d d::a)<|d::b:=.cons (.d _) h
theorem Frzs.v {H:List Blk}{d:D}{a:List V}{b:List D}(h:Frzs H a b):Frzs H (.d d::a)<|d::b:=.cons (.d _) h
theorem Frzs.v1 {H:List Blk}{d:D}:Frzs H [.d d] [d]:=.v .nil
theorem zxn.v1 {H:List Blk}{ids:List Nat}{d:D}:zxn H ids [.d d] [d]:=.v .nil
abbrev Kx1 [zvx][Drw]{α γ:Type}(i:FuncId)(f:Nat->α->Option γ)(a:α->D)(e:γ->D):Prop:=∀n t0 r,f n t0=O r->Pure pg i [a t0] (e r)
abbrev Kx2 [zvx][Drw]{α β γ:Type}(i:FuncId)(f:Nat->α->β->Option γ)(a:α->D)(b:β->D)(e:γ->D):Prop:=∀n t0 t1 r,f n t0 t1=O r->Pure pg i [a t0,b t1] (e r)
abbrev Kx3 [zvx][Drw]{α β δ γ:Type}(i:FuncId)(f:Nat->α->β->δ->Option γ)(a:α->D)(b:β->D)(c:δ->D)(e:γ->D):Prop:=∀n t0 t1 t2 r,f n t0 t1 t2=O r->Pure pg i [a t0,b t1,c t2] (e r)
abbrev Kx4 [zvx][Drw]{α β δ ε γ:Type}(i:FuncId)(f:Nat->α->β->δ->ε->Option γ)(a:α->D)(b:β->D)(c:δ->D)(d:ε->D)(e:γ->D):Prop:=∀n t0 t1 t2 t3 r,f n t0 t1 t2 t3=O r->Pure pg i [a t0,b t1,c t2,d t3] (e r)
theorem ZL40:D.Le (.val<|.agg #[.int .i64 0,.slice Y 0 0,.int .i64 0,.int .i64 0,.slice Y 0 0])<|xo ⟨0,[],0,0,[]⟩:=by rw[Tree.zyA];exact .ofAgg<|.cons (.refl _)<|.cons (.nil _)<|.cons (.refl _)<|.cons (.refl _)<|.cons (.nil _) .nil
theorem IB317:zyS pg 317:=⟨_,Tryz.func317,by kernel_rfl,by kernel_rfl,by kernel_rfl,by kernel_rfl⟩
theorem U3:xg.underlying 3=O (.int .i64):=by kernel_rfl
theorem U4:xg.underlying 4=O .bool:=by kernel_rfl
theorem U5:xg.underlying 5=O (.int .u8):=by kernel_rfl
theorem U9:xg.underlying 9=O .string:=by kernel_rfl
theorem U21:xg.underlying 21=O (.int .i32):=by kernel_rfl
theorem U22:xg.underlying 22=O (.slice 3):=by kernel_rfl
theorem U24:xg.underlying 24=O (.slice 9):=by kernel_rfl
theorem U37:xg.underlying 37=O (.slice 149):=by kernel_rfl
theorem U38:xg.underlying 38=O (.slice 40):=by kernel_rfl
theorem U51:xg.underlying 51=O (.slice 22):=by kernel_rfl
theorem U80:xg.underlying 80=O (.slice 83):=by kernel_rfl
theorem U95:xg.underlying 95=O (.map 3 94):=by kernel_rfl
theorem U173:xg.underlying 173=O (.slice 4):=by kernel_rfl
theorem U260:xg.underlying 260=O (.int .u64):=by kernel_rfl
theorem U278:xg.underlying 278=O (.map 9 4):=by kernel_rfl
theorem U283:xg.underlying 283=O (.map 3 4):=by kernel_rfl
theorem U296:xg.underlying 296=O (.int .u32):=by kernel_rfl
theorem U336:xg.underlying 336=O (.array 256 5):=by kernel_rfl
theorem UE182:xg.underlying 182=O (.struct #[]):=by kernel_rfl
theorem S3:(xg.info? 3).map (·.size)=O 1:=by kernel_rfl
theorem S4:(xg.info? 4).map (·.size)=O 1:=by kernel_rfl
theorem S5:(xg.info? 5).map (·.size)=O 1:=by kernel_rfl
theorem S9:(xg.info? 9).map (·.size)=O 1:=by kernel_rfl
theorem S22:(xg.info? 22).map (·.size)=O 1:=by kernel_rfl
theorem S40:(xg.info? 40).map (·.size)=O 5:=by kernel_rfl
theorem S83:(xg.info? 83).map (·.size)=O 2:=by kernel_rfl
theorem Y3:zas pg 3=O Y:=by kernel_rfl
theorem Y4:zas pg 4=O Y:=by kernel_rfl
theorem Y9:zas pg 9=O Y:=by kernel_rfl
theorem Y22:zas pg 22=O Y:=by kernel_rfl
theorem Y37:zas pg 37=O Y:=by kernel_rfl
theorem Y38:zas pg 38=O Y:=by kernel_rfl
theorem Y40:zas pg 40=O (O 5):=by kernel_rfl
theorem Y42:zas pg 42=O (O 8):=by kernel_rfl
theorem Y55:zas pg 55=O (O 2):=by kernel_rfl
theorem Y80:zas pg 80=O Y:=by kernel_rfl
theorem Y91:zas pg 91=O (O 9):=by kernel_rfl
theorem Y107:zas pg 107=O (O 6):=by kernel_rfl
theorem Y130:zas pg 130=O Y:=by kernel_rfl
theorem Y153:zas pg 153=O (O 7):=by kernel_rfl
theorem Y223:zas pg 223=O (O 2):=by kernel_rfl
theorem Z3:zcS pg 3 Y=true:=by kernel_rfl
theorem Z40:zcS pg 40 (O 5)=true:=by kernel_rfl
theorem Z107:zcS pg 107 (O 6)=true:=by kernel_rfl
theorem Z153:zcS pg 153 (O 7)=true:=by kernel_rfl
theorem ZZ107:(zbR pg 107).isSome=true:=by kernel_rfl
theorem ZZ153:(zbR pg 153).isSome=true:=by kernel_rfl
theorem C3:cellsOf pg 3=O 1:=by kernel_rfl
theorem C4:cellsOf pg 4=O 1:=by kernel_rfl
theorem C9:cellsOf pg 9=O 1:=by kernel_rfl
theorem C38:cellsOf pg 38=O 1:=by kernel_rfl
theorem C40:cellsOf pg 40=O 5:=by kernel_rfl
theorem C53:cellsOf pg 53=O 1:=by kernel_rfl
theorem C55:cellsOf pg 55=O 2:=by kernel_rfl
theorem C80:cellsOf pg 80=O 1:=by kernel_rfl
theorem C83:cellsOf pg 83=O 2:=by kernel_rfl
theorem C130:cellsOf pg 130=O 1:=by kernel_rfl
theorem C173:cellsOf pg 173=O 1:=by kernel_rfl
theorem C283:cellsOf pg 283=O 1:=by kernel_rfl
theorem E22:zcb pg 22 3 1 8=true:=by kernel_rfl
theorem E24:zcb pg 24 9 1 16=true:=by kernel_rfl
theorem E38:zcb pg 38 40 5 72=true:=by kernel_rfl
theorem E51:zcb pg 51 22 1 24=true:=by kernel_rfl
theorem E53:zcb pg 53 109 2 16=true:=by kernel_rfl
theorem E74:zcb pg 74 55 2 32=true:=by kernel_rfl
theorem E80:zcb pg 80 83 2 16=true:=by kernel_rfl
theorem E173:zcb pg 173 4 1 1=true:=by kernel_rfl
theorem F40_1:zw8 pg 40 1=O (1,Y):=by kernel_rfl
theorem zyt:zw8 pg 40 4=O (4,Y):=by kernel_rfl
theorem F42_2:zw8 pg 42 2=O (2,O 5):=by kernel_rfl
theorem F87_0:zw8 pg 87 0=O (0,Y):=by kernel_rfl
theorem zuH:zw8 pg 107 3=O (3,O 2):=by kernel_rfl
theorem zuI:zw8 pg 134 2=O (2,O 5):=by kernel_rfl
theorem zna:zw8 pg 153 2=O (5,Y):=by kernel_rfl
theorem zuJ:zw8 pg 223 0=O (0,Y):=by kernel_rfl
theorem zuK:zw8 pg 255 0=O (0,O 7):=by kernel_rfl
theorem G40_1 (x:Tree):Fld pg 40 1 x.enc<|.sl 3<|xn wA x.steps:=Fld.of F40_1 rfl rfl
theorem zzL (x:Tree):Fld pg 40 4 x.enc<|.sl 5<|xn xo x.kids:=by rw[<-Tree.zw4];exact Fld.of zyt rfl rfl
theorem G42_2 (x:zv5):Fld pg 42 2 x.enc<|xo x.tree:=by rw[Tree.zyA];exact Fld.of F42_2 rfl rfl
theorem G87_0 (x:System):Fld pg 87 0 x.enc<|.sl 2<|xn xy x.box:=Fld.of F87_0 rfl rfl
theorem zuL (x:Table):Fld pg 107 3 x.enc<|xy x.range:=Fld.of zuH rfl rfl
theorem zjs (x:Found):Fld pg 134 2 x.enc<|xo x.tree:=by rw[Tree.zyA];exact Fld.of zuI rfl rfl
theorem zjt (x:zvV):Fld pg 153 2 x.enc<|.sl 2<|xn xy x.box:=Fld.of zna rfl rfl
theorem ztm (x:zwR):Fld pg 223 0 x.enc<|.int x.size:=Fld.of zuJ rfl rfl
theorem zh5 (x:zxb):Fld pg 255 0 x.enc<|xR x.model:=Fld.of zuK rfl rfl
theorem Zc40:zwT pg 40=O [.val<|.int .i64 0,.val<|.slice Y 0 0,.val<|.int .i64 0,.val<|.int .i64 0,.val<|.slice Y 0 0]:=by kernel_rfl
theorem Zc42:zwT pg 42=O [.val<|.int .i64 0,.val<|.slice Y 0 0,.val<|.int .i64 0,.val<|.slice Y 0 0,.val<|.int .i64 0,.val<|.int .i64 0,.val<|.slice Y 0 0,.val<|.int .i64 0]:=by kernel_rfl
theorem Zc55:zwT pg 55=O [.val<|.slice Y 0 0,.val<|.int .i64 0]:=by kernel_rfl
theorem Zc83:zwT pg 83=O [.val<|.int .i64 0,.val<|.int .i64 0]:=by kernel_rfl
theorem Zc91:zwT pg 91=O [.val<|.int .i64 0,.val<|.int .i64 0,.val<|.slice Y 0 0,.val<|.int .i64 0,.val<|.slice Y 0 0,.val<|.int .i64 0,.val<|.int .i64 0,.val<|.slice Y 0 0,.val<|.int .i64 0]:=by kernel_rfl
theorem Zc107:zwT pg 107=O [.val<|.string .empty,.val<|.int .i64 0,.val<|.slice Y 0 0,.val<|.int .i64 0,.val<|.int .i64 0,.val<|.int .i64 0]:=by kernel_rfl
theorem Zc109:zwT pg 109=O [.val<|.int .i64 0,.val<|.int .i64 0]:=by kernel_rfl
theorem Zc132:zwT pg 132=O [.val<|.slice Y 0 0,.val<|.slice Y 0 0,.val<|.slice Y 0 0,.val<|.slice Y 0 0,.val<|.slice Y 0 0,.val<|.int .i64 0,.val<|.int .i64 0]:=by kernel_rfl
theorem Zc134:zwT pg 134=O [.val<|.slice Y 0 0,.val<|.int .i64 0,.val<|.int .i64 0,.val<|.slice Y 0 0,.val<|.int .i64 0,.val<|.int .i64 0,.val<|.slice Y 0 0]:=by kernel_rfl
theorem Zc182:zwT pg 182=O []:=by kernel_rfl
theorem Zc218:zwT pg 218=O [.val<|.slice Y 0 0,.val<|.slice Y 0 0,.val<|.slice Y 0 0,.val<|.slice Y 0 0,.val<|.slice Y 0 0,.val<|.slice Y 0 0,.val<|.slice Y 0 0,.val<|.slice Y 0 0,.val<|.slice Y 0 0]:=by kernel_rfl
theorem Zc271:zwT pg 271=O [.val<|.int .i64 0,.val<|.int .i64 0,.val<|.int .i64 0,.val<|.int .i64 0]:=by kernel_rfl
theorem Zv3:zbR pg 3=O (.int .i64 0):=by kernel_rfl
theorem Zv4:zbR pg 4=O (.bool M):=by kernel_rfl
theorem Zv9:zbR pg 9=O (.string .empty):=by kernel_rfl
theorem Zv94:zbR pg 94=O .nilFunc:=by kernel_rfl
theorem Zv130:zbR pg 130=O (.pointer Y):=by kernel_rfl
theorem Zv173:zbR pg 173=O (.slice Y 0 0):=by kernel_rfl
theorem Zv283:zbR pg 283=O (.map Y):=by kernel_rfl
theorem Pl40:zdt pg 40=O [(0,1),(1,1),(2,1),(3,1),(4,1)]:=by kernel_rfl
theorem Pl55:zdt pg 55=O [(0,1),(1,1)]:=by kernel_rfl
theorem Pl91:zdt pg 91=O [(0,1),(1,1),(2,1),(3,5),(8,1)]:=by kernel_rfl
theorem Pl182:zdt pg 182=O []:=by kernel_rfl
theorem Pl218:zdt pg 218=O [(0,7),(7,1),(8,1)]:=by kernel_rfl
theorem K28:zvB pg 28=true:=by kernel_rfl
theorem K29:zvB pg 29=true:=by kernel_rfl
theorem K30:zvB pg 30=true:=by kernel_rfl
theorem K37:zvB pg 37=true:=by kernel_rfl
theorem K227:zvB pg 227=true:=by kernel_rfl
theorem K246:zvB pg 246=true:=by kernel_rfl
theorem K303:zvB pg 303=true:=by kernel_rfl
theorem K304:zvB pg 304=true:=by kernel_rfl
theorem Hm:xg.follows .mixedOrders=true:=by kernel_rfl
theorem SE83:zwU pg 83 [.int .i64,.int .i64]:=⟨by kernel_rfl,by kernel_rfl,by kernel_rfl⟩
theorem SE109:zwU pg 109 [.int .i64,.int .i64]:=⟨by kernel_rfl,by kernel_rfl,by kernel_rfl⟩
theorem SE149:zwU pg 149 [.int .i64,.int .i64,.int .i64]:=⟨by kernel_rfl,by kernel_rfl,by kernel_rfl⟩
theorem SE243:zwU pg 243 [.int .i64,.int .i64,.int .i64]:=⟨by kernel_rfl,by kernel_rfl,by kernel_rfl⟩
def Range.vals (x:Range):List Value:=[.int .i64 x.lo,.int .i64 x.hi]
theorem SQ83 (x y:Range):eqVs (Range.vals x) (Range.vals y)=Z (x=y):=by
 rw[xP,decide_eq_true_iff];rcases x with⟨_,_⟩;rcases y with⟨_,_⟩;simp[Range.vals,eqVs,eqV,zh3,and_assoc]
def Term.vals (x:Term):List Value:=[.int .i64 x.cell,.int .i64 x.zvy]
theorem SQ109 (x y:Term):eqVs (Term.vals x) (Term.vals y)=Z (x=y):=by
 rw[xP,decide_eq_true_iff];rcases x with⟨_,_⟩;rcases y with⟨_,_⟩;simp[Term.vals,eqVs,eqV,zh3,and_assoc]
def Step.vals (x:Step):List Value:=[.int .i64 x.kind,.int .i64 x.index,.int .i64 x.cell]
theorem SQ149 (x y:Step):eqVs (Step.vals x) (Step.vals y)=Z (x=y):=by
 rw[xP,decide_eq_true_iff];rcases x with⟨_,_,_⟩;rcases y with⟨_,_,_⟩;simp[Step.vals,eqVs,eqV,zh3,and_assoc]
def zwg.vals (x:zwg):List Value:=[.int .i64 x.kind,.int .i64 x.cell,.int .i64 x.value]
theorem SQ243 (x y:zwg):eqVs (zwg.vals x) (zwg.vals y)=Z (x=y):=by
 rw[xP,decide_eq_true_iff];rcases x with⟨_,_,_⟩;rcases y with⟨_,_,_⟩;simp[zwg.vals,eqVs,eqV,zh3,and_assoc]
theorem KT3:KeyT pg 3 λn:Int=>wW .i64 n:=KeyT.int U3
theorem KT9:KeyT pg 9 λl:List UInt8=>wS ⟨l.toArray⟩:=KeyT.str U9
theorem ztn {P:Program}{f:FuncId}{B:Func}(h:P.funcs[f]?.isSome=true)(hn:((P.funcs[f]?.get h).name== "runtime.NumGoroutine")=false)(he:P.funcs[f]?=some {B with name:=(P.funcs[f]?.get h).name}):Go.Proofs.Bears P f B:=⟨_,hn,he⟩
def Tryz.zzd:Go.Shelf.Ren:=⟨fun|4=>178|n=>n,fun|22=>74|25=>55|3=>3|4=>4|9=>9|20=>20|0=>0|n=>n,fun|n=>n⟩
theorem Tryz.grow178:Go.Proofs.Lays8.n4 pg Tryz.zzd:=by constructor<;>first|kernel_rfl|(intro w;kernel_rfl)|exact ztn (by kernel_rfl) (by kernel_rfl)<|by kernel_rfl
section
variable[zvx][Drw]
theorem TriI.to {P C ops fuel listed Q s}(listed')(e:listed=listed')(h:TriI P C ops fuel listed' Q s):TriI P C ops fuel listed Q s:=by simp_all
theorem TriI.via {P C ops fuel listed Q s}(f l' s')(h:TriI P C ops f l' Q s')(k:TriI P C ops f l' Q s'->TriI P C ops fuel listed Q s):TriI P C ops fuel listed Q s:=k h
theorem TriI.zxB {P C ops fuel listed Q T K H}(ks)(hK:Looks T ks K)(h:TriI P C ops fuel listed Q ⟨K,H⟩):TriI P C ops fuel listed Q ⟨T,H⟩:=⟨λc a w b=>h.run c a w<|b.weaken hK.sub.look⟩
theorem TriI.ge {P C ops fuel listed Q s t}(hl:s.ge t)(hgn:xQ C.gn t.H.length=U)(h:TriI P C ops fuel listed Q t):TriI P C ops fuel listed Q s:=⟨λ_ a w d=>let⟨c,b⟩:=d.ge hl hgn;h.run c a w b⟩
theorem TriL.ge {P C ops rest Q s t}(hl:s.ge t)(hgn:xQ C.gn t.H.length=U)(h:TriL P C ops rest Q t):TriL P C ops rest Q s:=⟨λ_ a w d=>let⟨c,b⟩:=d.ge hl hgn;h.run c a w b⟩
theorem TriI.cut {P C ops fuel listed Q T H'}(H)(hl:∃X,H'=H++X)(h1:H.all (vl H.length)=U)(h2:(T.all λp=>p.2.under H.length)=U)(hT:Sub T T)(hgn:xQ C.gn H.length=U)(h:TriI P C ops fuel listed Q ⟨T,H⟩):TriI P C ops fuel listed Q ⟨T,H'⟩:=.ge (t:=⟨T,H⟩) (let⟨X,a⟩:=hl;⟨X,a,h1,h2,hT⟩) hgn h
theorem OneI.ofG {P C ops o s s'}(hd:zea o=U)(hw:zxN C ops o s U)(h:TriL P C ops [{o with guard:=Y}] (zyh s') s):OneI P C ops o s s':=by
 refine⟨λd a w c Q i K g e=>?_⟩;have b:=h.run d a w c;have hw:=hw.run d a w c;unfold wpOpIn;simp only[g,hw];unfold wpList at b;have m:wq {o with guard:=Y} (yielded ops a.tmps)=true:=rfl;rcases b with b|⟨_,n,l,b⟩;·have f:=b;exact Oper.wpIn_wide (.inl rfl) (zgV hd)<|Oper.zyR e f
 ·rcases b with⟨j,k,⟨h,_⟩,c⟩|⟨h,_⟩<;>cases h
theorem OneI.no {P C ops o s}(hd:zvU o.dst C.n=U)(hw:zxN C ops o s M):OneI P C ops o s<|s.put o.dst .junk:=by refine⟨λc a w b Q i K e d=>?_⟩;have hw:=hw.run c a w b;unfold wpOpIn;simp only[e,hw];exact⟨λ_ _=>trivial,d _ _ ⟨c,b.put (xz _ _) o.dst hd (v:=.junk)<|by grind[xk]⟩⟩
theorem zqm {P f fn}{α}{t el}{k bytes}{enc}{xs zs:List α}(hf:P.funcs[f]?=O fn)(hbody:fn.body=O (zgC t))(hN:fn.ntmps=8)(hrs:fn.results=#[.tmp 2])(ht:zcb P t el k bytes=U)(hb:xA 0 bytes=U)(hones:∀z,(enc z).ones=U)(hk:∀x,(enc x).kOK k=U)(hv:Go.Proofs.YtipkniadbkndfaaGreatDoor.app bytes [] xs=O zs):Pure P f [.sl k<|xs.map enc]<|.sl k<|zs.map enc:=by
 have e:zs=xs:=by have:=(appS hv).1;simp_all
 have c:=(zbI ht).1;refine Pure.ot hf hbody hN rfl λA w=>?_;rw[hrs];refine .seq<|.region<|.op rfl rfl (.assign rfl rfl)<|.nil ?_;refine .seq<|.seq<|.region<|.op rfl rfl (.move rfl rfl)<|.eqNil rfl rfl rfl c rfl λb a=>.nil ?_;refine .cond (t:=b) rfl (λd=>?_) λ_=>.skip ?_
 ·have a:xs=[]:=by simp_all
  subst a;subst e;refine .seq<|.region<|.op rfl rfl (.assign rfl rfl)<|.nil ?_;refine .zxP 2 k el rfl<|.ret ?_;exact zgt rfl<|.vec rfl rfl
 ·refine .seq<|.region<|.zyb (α:=α) (enc:=enc) [] rfl rfl rfl rfl rfl ht rfl hk (by simp_all) ?_;refine .op rfl rfl (.move rfl rfl) ?_;refine .app rfl rfl rfl rfl rfl rfl rfl rfl ht hb hones hv ?_;refine .op rfl rfl (.assign rfl rfl)<|.nil ?_;refine .ret ?_;exact zgt rfl<|.vec rfl<|by simp
theorem OpV.zz6 {P o e H g x d}(ho:o.op=.makeFunc (.func g) #[x] #[])(hx:e x=O (.d d)):OpV P o e H<|.d<|.fn (.func g) [d] []:=.of_same λc h w f _ a=>by have b:=a x (by grind[xj]) _ hx;refine⟨.func (.func g) #[f x] #[],by simp[execOp,ho,Instr.makeFunc],?_⟩;simp only[xk,xC,xu]at b|-;simp_all
end
class Tab (P:Program)where
 F:Nat->Nat->Option Nat
 S:Nat->Option (Option Nat)fl:∀t i o,F t i=O o->zw8 P t i=O (o,Y)sh:∀t k,S t=O k->zas P t=O k
def nthO {α:Type}:List (Option α)->Nat->Option α|x::_,0=>x|_::l,n+1=>nthO l n|[],_=>Y
def assN {α:Type}:List (Nat×α)->Nat->Option α
 |(k,x)::l,t=>match vf k t with
  |true=>O x|false=>assN l t
 |[],_=>Y
def tbF (l:List<|Nat×List (Option Nat))(t i:Nat):Option Nat:=match assN l t with|some r=>nthO r i|none=>Y
theorem zdI {α:Type}:∀{l:List<|Nat×α}{t:Nat}{x:α},assN l t=O x->(t,x)∈l|[],_,_,h=>by simp[assN]at h|(k,y)::l,t,x,h=>by rw[assN]at h;cases hk:vf k t with|true=>rw[hk]at h;cases h;rw[wU hk];simp|false=>rw[hk]at h;exact yZ _<|zdI h
def rowB (P:Program)(t:Nat):List (Option Nat)->Nat->Bool|[],_=>U|none::l,i=>rowB P t l<|i+1|some o::l,i=>decide (zw8 P t i=O (o,Y))&&rowB P t l (i+1)
theorem zpO {P t o}:∀{l:List<|Option Nat}{j i:Nat},rowB P t l j=U->nthO l i=O o->zw8 P t (j+i)=O (o,Y)
 |[],_,_,_,h=>by simp[nthO]at h|x::l,j,0,hb,h=>by simp only[nthO]at h;subst h;simp only[rowB,yc,yf]at hb;exact hb.1|x::l,j,i+1,hb,h=>by
  simp only[nthO]at h;have hb':rowB P t l (j+1)=true:=by cases x with|none=>exact hb|some o=>simp only[rowB,yc]at hb;exact hb.2
  have:=zpO hb' h;rwa[Nat.add_assoc,Nat.add_comm 1 i]at this
abbrev Tab.mk' {P:Program}{F:Nat->Nat->Option Nat}{S:Nat->Option (Option Nat)}(f:List<|Nat×List (Option Nat))(s:List<|Nat×Option Nat)(hf:(f.all λp=>rowB P p.1 p.2 0)=U)(hs:(s.all λp=>Z<|zas P p.1=O p.2)=U)(eF:F=tbF f)(eS:S=assN s):Tab P where
 F:=F
 S:=S
 fl:=λt i o h=>by rw[eF]at h;unfold tbF at h;cases ha:assN f t with|none=>rw[ha]at h;cases h|some r=>
   rw[ha]at h;have:=zpO (yo.1 hf _<|zdI ha) h;rwa[uh]at this
 sh:=λt k h=>by rw[eS]at h;exact of_decide_eq_true<|yo.1 hs _<|zdI h
def slB (P:Program)(t k:Nat):Bool:=match P.underlying t with|some<|.slice el=>decide<|(P.info? el).map (·.size)=O k|_=>M
theorem zvc {P t k}(h:slB P t k=U):∃el,P.underlying t=O (.slice el)/\(P.info? el).map (·.size)=O k:=by
 unfold slB at h;split at h;·exact⟨_,‹_›,of_decide_eq_true h⟩
 ·cases h
def ceB (P:Program)(t n:Nat):Bool:=match cellsOf P t with|some m=>vf m n|none=>M
theorem zuQ {P t n}(h:ceB P t n=U):cellsOf P t=O n:=by
 unfold ceB at h;split at h;·rw[‹cellsOf P t=_›,wU h]
 ·cases h
def plB (P:Program)(t:Nat)(l:List<|Nat×Nat):Bool:=match zdt P t with|some m=>decide<|m=l|none=>M
theorem zva {P t l}(h:plB P t l=U):zdt P t=O l:=by
 unfold plB at h;split at h;·rw[‹zdt P t=_›,of_decide_eq_true h]
 ·cases h
def memN:List Nat->Nat->Bool
 |k::l,f=>match vf k f with
  |true=>U|false=>memN l f
 |[],_=>M
theorem ziq:∀{l:List Nat}{f:Nat},memN l f=U->f∈l|[],_,h=>by simp[memN]at h|k::l,f,h=>by rw[memN]at h;cases hk:vf k f with|true=>rw[wU hk];simp|false=>rw[hk]at h;exact yZ _<|ziq h
theorem slAll {P l}(hl:(l.all λp=>slB P p.1 p.2)=U){t k}(h:assN l t=O k):∃el,P.underlying t=O (.slice el)/\(P.info? el).map (·.size)=O k:=zvc<|yo.1 hl _<|zdI h
theorem clAll {P l}(hl:l.all (zvB P)=U){f}(h:memN l f=U):zvB P f=true:=yo.1 hl f<|ziq h
def nthD {α:Type}:List α->Nat->Option α|x::_,0=>O x|_::l,n+1=>nthD l n|[],_=>Y
theorem zfn {α:Type}:∀{l:List α}{i:Nat}{y:α},nthD l i=O y->l[i]?=O y|[],_,_,h=>by simp[nthD]at h|x::l,0,y,h=>by simpa[nthD]using h|x::l,i+1,y,h=>by rw[uH];exact zfn h
def zzg:List D->Nat->Bool|[],0=>U|_::l,n+1=>zzg l n|_,_=>M
theorem zkF:∀{l:List D}{n:Nat},zzg l n=U->l.length=n|[],0,_=>rfl|_::l,n+1,h=>by rw[yQ,zkF (l:=l) h]|[],_+1,h=>by simp[zzg]at h|_::_,0,h=>by simp[zzg]at h
def zgl (d:D)(k:Option Nat):Bool:=match d with
 |.agg cs=>match k with|some n=>zzg cs n|none=>M
 |.val v=>match v with
  |.agg _=>M|_=>k.isNone
 |_=>k.isNone
theorem zf1 {d k}(h:zgl d k=U):d.shape=k:=by cases d with
 |agg cs=>cases k with|none=>cases h|some n=>exact congrArg O<|zkF h
 |val v=>cases v<;>cases k<;>first|rfl|cases h
 |_=>cases k<;>first|rfl|cases h
def vBin (op:BinOp)(x y:Option V):Option V:=match x,y with
 |some<|.d<|.val<|.int k a,O<|.d<|.val<|.int k' b=>match Z<|k=k' with
  |true=>match op with
   |.lss=>O<|.d<|.bool<|Z<|a<b|.leq=>O<|.d<|.bool<|Z<|a<=b|.gtr=>O<|.d<|.bool<|Z<|b<a|.geq=>O<|.d<|.bool<|Z<|b<=a|.eql=>O<|.d<|.bool<|a==b|.neq=>O<|.d<|.bool<|a !=b|.add=>match k with
    |.i64=>O<|.d<|.int<|zvp a b|_=>Y
   |.sub=>match k with
    |.i64=>O<|.d<|.int<|zvz a b|_=>Y
   |.mul=>match k with|.i64=>O<|.d<|.int<|zvA a b|_=>Y
   |_=>Y
  |false=>Y
 |_,_=>Y
def zx3 (H:List Blk)(i:Nat):Option<|List V:=match nthD H i with|some<|.box _ cs=>O cs|_=>Y
theorem zh9 {H i cs}(h:zx3 H i=O cs):∃t,H[i]?=O (.box t cs):=by
 unfold zx3 at h;split at h;·cases h;exact⟨_,zfn ‹_›⟩
 ·cases h
def vOp (F:Nat->Nat->Option Nat)(S:Nat->Option (Option Nat))(H:List Blk)(e:Operand->Option V):Op->Option V
 |.move x=>e x|.assign x=>e x|.box _ x=>match e x with
  |some<|.d d=>O<|.d<|.ref d|_=>Y
 |.unOp .not _ x=>match e x with
  |some<|.d<|.val<|.bool b=>O<|.d<|.bool<|!b|_=>Y
 |.binOp op _ x y _=>vBin op (e x)<|e y|.fieldAddr t x i=>match e x with
  |some<|.d<|.ref<|.agg cs=>match F t i with
   |some o=>match nthD cs o with
    |some y=>match zgl y Y with|true=>O<|.d<|.ref y|false=>Y
    |none=>Y
   |none=>Y
  |some<|.loc b off=>match F t i with
   |some o=>match zx3 H b with|some _=>O<|.loc b<|off+o|none=>Y
   |none=>Y
  |_=>Y
 |.load t x=>match e x with
  |some<|.d<|.ref d=>match S t with
   |some k=>match zgl d k with
    |true=>O<|.d d|false=>Y
   |none=>Y
  |some<|.loc b off=>match S t with
   |some Y=>match zx3 H b with|some cs=>nthD cs off|none=>Y
   |_=>Y
  |_=>Y
 |.extract x i=>match e x with
  |some<|.d<|.tup ds=>match nthD ds i with|some d=>O<|.d d|none=>Y
  |some<|.tup cs=>nthD cs i|_=>Y
 |.nilCheck x=>match e x with
  |some<|.d<|.ref d=>O<|.d<|.ref d|some<|.loc b off=>match zx3 H b with
   |some _=>O<|.loc b off|none=>Y
  |_=>Y
 |_=>Y
section
variable[zvx][Drw]{P:Program}[Tab P]{o:Oper}{e:Operand->Option V}{H:List Blk}{v:V}
theorem zux {op:BinOp}{t u x y}(ho:o.op=.binOp op t x y u)(h:vBin op (e x) (e y)=O v):OpV P o e H v:=by
 unfold vBin at h;split at h
 ·rename_i k a k' b hx hy;split at h
  ·rename_i hk;have hk:=of_decide_eq_true hk;subst hk;split at h;·cases h;exact .lss ho hx hy
   ·cases h;exact .leq ho hx hy
   ·cases h;exact .gtr ho hx hy
   ·cases h;exact .geq ho hx hy
   ·cases h;exact .eql ho hx hy
   ·cases h;exact .neq ho hx hy
   ·split at h;·cases h;exact .add6 ho hx hy
    ·cases h
   ·split at h;·cases h;exact .sub6 ho hx hy
    ·cases h
   ·split at h;·cases h;exact .mul6 ho hx hy
    ·cases h
   ·cases h
  ·cases h
 ·cases h
theorem zp4 (h:vOp (Tab.F P) (Tab.S P) H e o.op=O v):OpV P o e H v:=by
 unfold vOp at h;split at h;·exact .move ‹_› h
 ·exact .assign ‹_› h
 ·split at h;·cases h;exact .box ‹_› ‹_›
  ·cases h
 ·split at h;·cases h;exact .not ‹_› ‹_›
  ·cases h
 ·exact zux ‹_› h
 ·split at h
  ·split at h
   ·split at h
    ·split at h;·cases h;exact .fieldAddr ‹o.op=_› ‹e _=_›<|Fld.of (Tab.fl _ _ _ ‹Tab.F P _ _=_›) (zf1 ‹zgl _ _=_›)<|zfn ‹nthD _ _=_›
     ·cases h
    ·cases h
   ·cases h
  ·split at h
   ·split at h;·cases h;obtain⟨_,hb⟩:=zh9 ‹zx3 _ _=_›;exact .zvL ‹o.op=_› ‹e _=_› hb<|Tab.fl _ _ _ ‹Tab.F P _ _=_›
    ·cases h
   ·cases h
  ·cases h
 ·split at h
  ·split at h
   ·split at h;·cases h;exact .load ‹o.op=_› ‹e _=_› (Tab.sh _ _ ‹Tab.S P _=_›)<|zf1 ‹zgl _ _=_›
    ·cases h
   ·cases h
  ·split at h
   ·split at h;·obtain⟨_,hb⟩:=zh9 ‹zx3 _ _=_›;exact .zvM ‹o.op=_› ‹e _=_› hb (Tab.sh _ _ ‹Tab.S P _=_›)<|zfn h
    ·cases h
   ·cases h
  ·cases h
 ·split at h
  ·split at h;·cases h;exact .extract ‹o.op=_› ‹e _=_›<|zfn ‹nthD _ _=_›
   ·cases h
  ·exact .extractV ‹o.op=_› ‹e _=_›<|zfn h
  ·cases h
 ·split at h;·cases h;exact .zy2 ‹o.op=_› ‹e _=_›
  ·split at h;·cases h;obtain⟨_,hb⟩:=zh9 ‹zx3 _ _=_›;exact .zy1 ‹o.op=_› ‹e _=_› hb
   ·cases h
  ·cases h
 ·cases h
theorem zp5 (h:vOp (Tab.F P) (Tab.S P) H e o.op=O v):zap o=false:=by unfold zap;cases ho:o.op<;>first|rfl|(rw[ho]at h;simp[vOp]at h)
end
def runA (F:Nat->Nat->Option Nat)(S:Nat->Option (Option Nat))(N:Nat)(H:List Blk):Nat->List Oper->List (Nat×V)->Option (List Oper×List (Nat×V))
 |0,l,T=>O (l,T)|n+1,o::l,T=>match o.guard,o.dst with
  |none,O d=>match xA d N with
   |true=>match vOp F S H (ev T) o.op with|some v=>runA F S N H n l<|(d,v)::T|none=>Y
   |false=>Y
  |_,_=>Y
 |_+1,[],_=>Y
def zzm:Bool->Bool->Bool|true,U=>U|false,M=>U|_,_=>M
def runQ (F:Nat->Nat->Option Nat)(S:Nat->Option (Option Nat))(N:Nat)(H:List Blk)(ops:Array Oper):Nat->List Oper->List (Nat×V)->Option (List Oper×List (Nat×V))
 |0,l,T=>O (l,T)|n+1,o::l,T=>match o.dst with
  |some d=>match xA d N with
   |true=>match vOp F S H (ev T) o.op with
    |some v=>match o.guard with
     |none=>runQ F S N H ops n l<|(d,v)::T|some (j,w)=>match ops[j]?.bind (·.dst)with
      |some g=>match look g T with
       |some<|.d<|.val<|.bool b=>match zzm b w with
        |true=>runQ F S N H ops n l<|(d,v)::T|false=>Y
       |_=>Y
      |none=>Y
    |none=>Y
   |false=>Y
  |none=>Y
 |_+1,[],_=>Y
section
variable[zvx][Drw]{P:Program}[Tab P]{C:Ctx}{ops:Array Oper}{Q:Exit->St->Prop}
theorem zr4 {H rest T'}(k:TriL P C ops rest Q ⟨T',H⟩):∀(n:Nat)(l:List Oper)(T:List<|Nat×V),runA (Tab.F P) (Tab.S P) C.n H n l T=O (rest,T')->TriL P C ops l Q ⟨T,H⟩
 |0,l,T,h=>by cases h;exact k|n+1,[],T,h=>by cases h|n+1,o::l,T,h=>by
  rw[runA]at h;split at h
  ·split at h
   ·split at h;·have hd:=‹o.dst=_›;refine .op ‹o.guard=_› (by rw[hd];exact‹xA _ _=_›) (zp4 ‹vOp _ _ _ _ _=_›) ?_;rw[hd];exact zr4 k n l _ h
    ·cases h
   ·cases h
  ·cases h
theorem zkb:∀{a b:Bool},zzm a b=U->a=b|true,U,_=>rfl|false,M,_=>rfl
theorem zoY {N H al}{K:List Ev->List (Nat×V)->Prop}{rest T'}(k:TriQ P N ops H rest al T' K):∀(n:Nat)(l:List Oper)(T:List<|Nat×V),runQ (Tab.F P) (Tab.S P) N H ops n l T=O (rest,T')->TriQ P N ops H l al T K
 |0,l,T,h=>by cases h;exact k|n+1,[],T,h=>by cases h|n+1,o::l,T,h=>by
  rw[runQ]at h;split at h
  ·split at h
   ·split at h
    ·split at h;·exact .op ‹o.guard=_› ‹o.dst=_› ‹xA _ _=_› (zp5 ‹vOp _ _ _ _ _=_›) (zp4 ‹vOp _ _ _ _ _=_›)<|zoY k n l _ h
     ·split at h
      ·split at h
       ·split at h;·have hs:=zkb ‹zzm _ _=_›;exact .gop ‹o.guard=_› ‹Option.bind _ _=_› (by rw[<-hs];exact‹look _ _=_›) ‹o.dst=_› ‹xA _ _=_› (zp5 ‹vOp _ _ _ _ _=_›) (zp4 ‹vOp _ _ _ _ _=_›)<|zoY k n l _ h
        ·cases h
       ·cases h
      ·cases h
    ·cases h
   ·cases h
  ·cases h
end
def nfNL {β:Type}:Nat->List Nat->(Nat->β)->β|0,a::_,k=>k a|n+1,_::l,k=>nfNL n l k|n,[],k=>k<|n+41
theorem zrB {β:Type}:∀(n m a:Nat)(k:Nat->β),m+a=41->nfNL n (ws a m) k=k (n+a)|0,0,a,k,h=>by rw[ws,nfNL];congr 1;omega|n+1,0,a,k,h=>by rw[ws,nfNL];congr 1;omega|0,m+1,a,k,h=>by rw[List.range'_succ,nfNL];congr 1;omega|n+1,m+1,a,k,h=>by rw[List.range'_succ,nfNL,zrB n m (a+1) k<|by omega];congr 1;omega
def nums:List Nat:=[0,1,2,3,4,5,6,7,8,9,10,11,12,13,14,15,16,17,18,19,20,21,22,23,24,25,26,27,28,29,30,31,32,33,34,35,36,37,38,39,40]
def nfN {β:Type}(n:Nat)(k:Nat->β):β:=nfNL n nums k
theorem zpH {β:Type}(n:Nat)(k:Nat->β):nfN n k=k n:=zrB n 41 0 k rfl
def nfVl {β:Type}:List V->(List V->β)->β|.loc i o::l,k=>nfN i λi=>nfVl l λl=>k<|.loc i o::l|v::l,k=>nfVl l λl=>k<|v::l|[],k=>k []
theorem zmQ {β:Type}:∀(l:List V)(k:List V->β),nfVl l k=k l|[],k=>rfl|v::l,k=>by cases v<;>simp only[nfVl,zmQ l,zpH]
def nfV {β:Type}:V->(V->β)->β|.loc i o,k=>nfN i λi=>nfN o λo=>k<|.loc i o|.vec i n,k=>nfN i λi=>k<|.vec i n|.fn f a l,k=>nfVl l λl=>k<|.fn f a l|v,k=>k v
theorem zrC {β:Type}(v:V)(k:V->β):nfV v k=k v:=by cases v<;>simp only[nfV,zpH,zmQ]
def nfC {β:Type}:List V->List V->(List V->β)->β|[],acc,k=>k acc|c::l,acc,k=>nfV c λc=>nfC l (c::acc) k
def nfH {β:Type}:List Blk->(List Blk->β)->β|[],k=>k []|.box t cs::l,k=>nfH l λl'=>nfC cs [] λr=>nfC r [] λcs'=>k<|.box t cs'::l'|b::l,k=>nfH l λl'=>k<|b::l'
theorem ztA {β:Type}:∀(l acc:List V)(k:List V->β),nfC l acc k=k (l.reverse++acc)|[],acc,k=>by simp[nfC]|c::l,acc,k=>by rw[nfC,zrC,ztA l];simp
theorem zkS {β:Type}:∀(H:List Blk)(k:List Blk->β),nfH H k=k H|[],k=>by rw[nfH]|b::l,k=>by cases b<;>simp only[nfH,zkS l,ztA,ud,List.reverse_reverse]
def zx8:List Nat->List (Nat×V)->List (Nat×V)->Option (List<|Nat×V)|[],_,acc=>O acc|k::ks,T,acc=>match look k T with|some v=>nfV v λv=>zx8 ks T<|(k,v)::acc|none=>Y
theorem zgX {T}:∀{ks:List Nat}{acc K:List<|Nat×V},zx8 ks T acc=O K->Sub acc T->Sub K T|[],acc,K,h,hs=>by cases h;exact hs|k::ks,acc,K,h,hs=>by rw[zx8]at h;cases hl:look k T with|none=>rw[hl]at h;cases h|some v=>rw[hl]at h;simp only[zrC]at h;exact zgX h ⟨hl,hs⟩
def keepK (ks:List Nat)(s:St):Option<|List (Nat×V)×List Blk:=match zx8 ks s.T []with|some K=>nfH s.H λH=>O (K,H)|none=>Y
section
variable[zvx][Drw]{P:Program}{C:Ctx}{Q:Exit->St->Prop}
theorem Tri.K (ks){c s K H}(h:keepK ks s=O (K,H))(k:Tri P C c Q ⟨K,H⟩):Tri P C c Q s:=by unfold keepK at h;cases hp:zx8 ks s.T []with|none=>rw[hp]at h;cases h|some K'=>rw[hp]at h;simp only[zkS,yp,yg]at h;obtain⟨rfl,rfl⟩:=h;exact Tri.le (s:=s) (t:=⟨K',s.H⟩) ⟨rfl,zgX hp trivial⟩ k
theorem Looks.of {T}:∀(ks:List Nat)(K0:List<|Nat×V),Sub K0 T->K0.map (·.1)=ks->Looks T ks K0|_,[],_,rfl=>.nil|_,(k,v)::K,h,rfl=>.cons h.1<|Looks.of _ K h.2 rfl
def lks:List (Nat×V)->List (Nat×V)->List (Option V)|[],_=>[]|(k,_)::l,T=>look k T::lks l T
def vls:List (Nat×V)->List (Option V)|[]=>[]|(_,v)::l=>O v::vls l
theorem zkK {T}:∀{l:List<|Nat×V},lks l T=vls l->Sub l T|[],_=>trivial|(k,v)::l,h=>by simp only[lks,vls,wI]at h;exact⟨h.1,zkK h.2⟩
theorem gE {s t:St}{X:List Blk}(h:(s.H,t.H.all<|vl t.H.length,t.T.all λp=>p.2.under t.H.length,lks t.T s.T)=(t.H++X,U,U,vls t.T)):s.ge t:=by simp only[yg]at h;exact⟨X,h.1,h.2.1,h.2.2.1,zkK h.2.2.2⟩
theorem ndE {σ R:Type}{k:σ->Option R}{r:R}{xf:σ->St}{s:St}{v:σ}{X:List Blk}(h:k v=O r)(g:(s.H,(xf v).H.all<|vl (xf v).H.length,(xf v).T.all λp=>p.2.under (xf v).H.length,lks (xf v).T s.T)=((xf v).H++X,U,U,vls (xf v).T)):∃v,k v=O r/\s.ge (xf v):=⟨v,h,gE g⟩
theorem Tri.L {σ R:Type}{c}{body:(σ->Option R)->σ->Option R}{n:Nat}{init:σ}{r:R}{s}(ks:List Nat){K X}(h:zvt body n init=O r)(upd:σ->List (Nat×V))(hf:σ->List (Nat×Blk))(g:(zx8 ks s.T [],s.H,(over s.H<|hf init).all<|vl (over s.H<|hf init).length,(upd init++K).all λp=>p.2.under (over s.H<|hf init).length,lks (upd init++K) s.T,xQ C.gn s.H.length)=(O K,over s.H (hf init)++X,U,U,vls<|upd init++K,U))(hb:∀(rec:σ->Option R)(v:σ),body rec v=O r->Tri P C c (zxO rec r (λv=>⟨upd v++K,over s.H<|hf v⟩) Q) ⟨upd v++K,over s.H<|hf v⟩):Tri P C (.loop c) Q s:=by simp only[yg]at g;obtain⟨g1,g2,g3,g4,g5,g6⟩:=g;exact .loopS (K.map (·.1)) upd hf (Looks.of _ K (zgX g1 trivial) rfl) h ⟨X,g2,g3,g4,zkK g5⟩ hb g6
theorem Tri.xf {σ R:Type}{x y}{k:σ->Option R}{m:(σ->Option R)->Option R}{r:R}{s}(ks:List Nat){K}(h:jn k m=O r)(upd:σ->List (Nat×V))(hf:σ->List (Nat×Blk))(g:(zx8 ks s.T [],xQ C.gn s.H.length)=(O K,U))(hm:∀k':σ->Option R,m k'=O r->Tri P C x (zxO k' r (λv=>⟨upd v++K,over s.H<|hf v⟩) Q) s)(hk:∀v,k v=O r->Tri P C y Q ⟨upd v++K,over s.H<|hf v⟩):Tri P C (.seq x y) Q s:=by simp only[yg]at g;exact .join (K.map (·.1)) upd hf (Looks.of _ K (zgX g.1 trivial) rfl) h hm hk g.2
end
theorem TriI.kt [zvx][Drw]{P C ops fuel listed listed' Q T K H H'}(k:TriI P C ops fuel listed' Q ⟨K,H⟩)(h:(H',lks K T)=(H,vls K))(e:listed=listed':=by decide+kernel):TriI P C ops fuel listed Q ⟨T,H'⟩:=by simp only[yg]at h;rw[h.1];exact .zxB (K.map (·.1)) (Looks.of _ K (zkK h.2) rfl)<|e▸k
theorem TriA.kt [zvx][Drw]{P C ops fuel listed listed' Q T K H H'}(k:TriA P C ops fuel listed' Q ⟨K,H⟩)(h:(H',lks K T)=(H,vls K))(e:listed=listed':=by decide+kernel):TriA P C ops fuel listed Q ⟨T,H'⟩:=by simp only[yg]at h;rw[h.1];exact .zxB (K.map (·.1)) (Looks.of _ K (zkK h.2) rfl)<|e▸k
def bN (n k:Nat):Array Bool:=((xm n).map k.testBit).toArray
section
variable[Drw]
def tFl:List<|Nat×List (Option Nat):=[(30,[O 0,O 1,O 2,O 3,O 4,O 5,O 6]),(32,[O 0,O 1]),(34,[O 0,O 1]),(40,[O 0,O 1,O 2,O 3,O 4]),(42,[O 0,O 1,Y,O 7]),(55,[O 0,O 1]),(57,[O 0,O 1,Y,O 4,O 5]),(64,[O 0,O 1,O 2]),(77,[O 0,O 1,O 2]),(79,[O 0,O 1]),(83,[O 0,O 1]),(87,[O 0,O 1,O 2,O 3]),(91,[O 0,Y,O 2,Y,O 8]),(107,[O 0,O 1,O 2,Y,O 5]),(109,[O 0,O 1]),(111,[O 0,Y,O 2]),(113,[O 0,O 1]),(124,[O 0,O 1,O 2]),(132,[Y,O 4,O 5,O 6]),(134,[O 0,O 1]),(149,[O 0,O 1,O 2]),(153,[Y,O 4,O 5,O 6]),(192,[O 0,O 1,O 2,O 3]),(202,[O 0,O 1,O 2]),(218,[Y,O 7,O 8]),(223,[O 0,O 1]),(243,[O 0,O 1,O 2]),(255,[Y,O 7]),(271,[O 0,Y,O 2,O 3])]
def tSl:List<|Nat×Option Nat:=[(3,Y),(4,Y),(5,Y),(9,Y),(22,Y),(23,Y),(24,Y),(25,Y),(26,Y),(27,Y),(28,Y),(30,O 7),(34,O 4),(37,Y),(38,Y),(40,O 5),(42,O 8),(53,Y),(55,O 2),(57,O 6),(64,O 3),(73,Y),(74,Y),(75,Y),(77,O 3),(79,O 5),(80,Y),(83,O 2),(84,Y),(85,Y),(87,O 4),(91,O 9),(107,O 6),(109,O 2),(111,O 3),(113,O 2),(124,O 3),(130,Y),(134,O 7),(149,O 3),(153,O 7),(173,Y),(192,O 4),(202,O 3),(216,Y),(223,O 2),(243,O 3),(255,O 8),(278,Y),(283,Y)]
def tXl:List<|Nat×Nat:=[(22,1),(23,6),(24,1),(25,6),(26,3),(27,5),(28,3),(37,3),(38,5),(51,1),(53,2),(73,2),(74,2),(75,3),(80,2),(84,3),(85,1),(173,1),(267,4)]
def tX:Nat->Option Nat:=assN tXl
def tCl:List Nat:=[8,9,10,11,12,13,14,15,16,17,18,19,20,21,22,23,24,25,26,27,28,29,30,31,32,33,34,35,36,37,38,39,40,41,42,43,44,45,46,47,48,49,50,51,52,53,54,55,56,57,58,59,60,61,62,63,64,65,66,67,68,69,70,71,72,73,74,75,76,77,78,79,80,81,82,83,84,85,86,87,88,89,90,91,92,93,94,95,96,97,98,99,100,101,102,103,104,105,106,107,108,109,110,111,112,113,114,115,116,117,118,119,120,121,122,123,124,125,126,127,128,129,130,131,132,133,134,135,136,137,138,139,140,141,142,143,144,145,146,147,148,149,150,151,152,153,155,156,157,158,159,160,161,162,163,164,165,169,170,171,172,173,174,175,176,177,178,179,180,181,182,183,184,185,186,187,188,189,190,191,192,193,194,195,196,197,198,199,200,201,202,203,204,205,206,207,208,209,211,214,215,216,217,218,219,220,221,222,223,224,225,226,227,228,229,230,231,232,233,234,235,236,237,238,239,240,241,242,243,244,245,246,247,258,259,260,261,262,263,264,265,266,267,268,269,270,271,272,273,274,275,276,277,278,279,281,287,288,289,290,291,292,294,295,297,298,300,301,302,303,304,305,306,307,308,309,310,311,312,313,314,315]
def tF:Nat->Nat->Option Nat:=tbF tFl
def tS:Nat->Option (Option Nat):=assN tSl
instance tabI:Tab xg:=.mk' (F:=tF) (S:=tS) tFl tSl (by kernel_rfl) (by kernel_rfl) rfl rfl
section
variable{C:Ctx}{ops:Array Oper}{Q:Exit->St->Prop}{l rest:List Oper}{T':List<|Nat×V}{s:St}{id:Nat}
theorem TriL.A (n:Nat)(h:runA tF tS C.n s.H n l s.T=O (rest,T'))(k:TriL xg C ops rest Q ⟨T',s.H⟩):TriL xg C ops l Q s:=zr4 k n l s.T h
theorem Tri.sA (n:Nat){y:Code}(h:runA tF tS C.n s.H n l s.T=O ([],T'))(k:Tri xg C y Q ⟨T',s.H⟩):Tri xg C (.seq (.region id l.toArray M) y) Q s:=.sr<|.A n h<|.nil k
theorem Tri.S (n:Nat){y:Code}(h:runA tF tS C.n s.H n l s.T=O (rest,T'))(k:TriL xg C l.toArray rest (zxS (Tri xg C y Q) Q) ⟨T',s.H⟩):Tri xg C (.seq (.region id l.toArray M) y) Q s:=.sr<|.A n h k
theorem Tri.rA (n:Nat)(h:runA tF tS C.n s.H n l s.T=O ([],T'))(k:Q .normal ⟨T',s.H⟩):Tri xg C (.region id l.toArray M) Q s:=.region<|.A n h<|.nil k
theorem TriQ.A (n:Nat){N:Nat}{H:List Blk}{al:List Ev}{K:List Ev->List (Nat×V)->Prop}{T:List<|Nat×V}(h:runQ tF tS N H ops n l T=O (rest,T'))(k:TriQ xg N ops H rest al T' K):TriQ xg N ops H l al T K:=zoY k n l T h
end
def tCn:List<|Nat×Nat:=[(3,1),(4,1),(9,1),(22,1),(30,7),(34,4),(37,1),(38,1),(40,5),(42,8),(53,1),(55,2),(57,6),(74,1),(79,5),(80,1),(83,2),(84,1),(85,1),(87,4),(91,9),(107,6),(124,3),(130,1),(134,7),(153,7),(173,1),(192,4),(216,1),(223,2),(243,3),(271,4),(283,1)]
def tC:Nat->Option Nat:=assN tCn
theorem zuu:(tCn.all λp=>ceB xg p.1 p.2)=true:=by kernel_rfl
theorem zog {t n:Nat}(h:tC t=O n):cellsOf xg t=O n:=zuQ<|yo.1 zuu (_,_)<|zdI h
def tZn:List<|Nat×Option Nat:=[(30,O 7),(34,O 4),(40,O 5),(42,O 8),(55,O 2),(57,O 6),(77,O 3),(79,O 5),(83,O 2),(87,O 4),(91,O 9),(107,O 6),(109,O 2),(111,O 3),(113,O 2),(124,O 3),(134,O 7),(149,O 3),(153,O 7),(192,O 4),(202,O 3),(223,O 2),(243,O 3),(255,O 8)]
def tZ:Nat->Option (Option Nat):=assN tZn
theorem zvk:(tZn.all λp=>zcS xg p.1 p.2)=true:=by kernel_rfl
theorem tZ_ok {t k}(h:tZ t=O k):zcS xg t k=true:=yo.1 zvk (_,_)<|zdI h
def tPn:List<|Nat×List (Nat×Nat):=[(30,[(0,1),(1,1),(2,1),(3,1),(4,1),(5,1),(6,1)]),(32,[(0,1),(1,1)]),(34,[(0,1),(1,1),(2,2)]),(40,[(0,1),(1,1),(2,1),(3,1),(4,1)]),(42,[(0,1),(1,1),(2,5),(7,1)]),(55,[(0,1),(1,1)]),(57,[(0,1),(1,1),(2,2),(4,1),(5,1)]),(77,[(0,1),(1,1),(2,1)]),(79,[(0,1),(1,1),(2,3)]),(83,[(0,1),(1,1)]),(87,[(0,1),(1,1),(2,1),(3,1)]),(91,[(0,1),(1,1),(2,1),(3,5),(8,1)]),(107,[(0,1),(1,1),(2,1),(3,2),(5,1)]),(109,[(0,1),(1,1)]),(111,[(0,1),(1,1),(2,1)]),(113,[(0,1),(1,1)]),(124,[(0,1),(1,1),(2,1)]),(132,[(0,4),(4,1),(5,1),(6,1)]),(134,[(0,1),(1,1),(2,5)]),(149,[(0,1),(1,1),(2,1)]),(153,[(0,4),(4,1),(5,1),(6,1)]),(182,[]),(192,[(0,1),(1,1),(2,1),(3,1)]),(218,[(0,7),(7,1),(8,1)]),(221,[(0,1),(1,1)]),(223,[(0,1),(1,1)]),(255,[(0,7),(7,1)]),(271,[(0,1),(1,1),(2,1),(3,1)])]
def tP:Nat->Option (List<|Nat×Nat):=assN tPn
theorem zvi:(tPn.all λp=>plB xg p.1 p.2)=true:=by kernel_rfl
theorem tP_ok {t l}(h:tP t=O l):zdt xg t=O l:=zva<|yo.1 zvi (_,_)<|zdI h
section
variable{C:Ctx}{ops:Array Oper}{Q:Exit->St->Prop}{o o1 o2:Oper}{rest:List Oper}{T:List<|Nat×V}{H:List Blk}{α:Type}{t r i off n k kk d g j:Nat}{x y:Operand}{bt:TypeId}{cs:List V}{e:D}{s:St}
theorem TriL.so (g:(o.guard,o.op,o.dst,ev T x,nthD H i,ev T y,e.ones,tC t,(V.zvR<|.d e).length,xQ (off+n) cs.length)=(Y,.store t x y,Y,O<|.loc i off,O<|.box bt cs,O<|.d e,U,O n,n,U))(k:TriL xg C ops rest Q ⟨T,H.set i<|.box bt<|cs.take off++V.zvR (.d e)++cs.drop (off+n)⟩):TriL xg C ops (o::rest) Q ⟨T,H⟩:=by
 simp only[yg]at g;obtain⟨g1,g2,g3,g4,g5,g6,g7,g8,g9,g10⟩:=g;exact .store g1 g2 g3 g4 (zfn g5) g6 (.ofD g7) (zog g8) g9 (yt g10) k
def neT:Operand->Nat->Bool|.tmp t,r=>!Nat.beq t r|_,_=>U
theorem TriL.aS {z:Option Nat}(g:(o1.guard,o2.guard,o1.op,o1.dst,o2.op,o2.dst,xA r C.n,ev s.T x,neT x r,tZ t,zgl e z,e.ones)=(Y,Y,.alloc t,O r,.store t (.tmp r) x,Y,U,O<|.d e,U,O z,U,U))(k:TriL xg C ops rest Q<|s.put (O r)<|.d<|.ref e):TriL xg C ops (o1::o2::rest) Q s:=by
 simp only[yg]at g;obtain⟨g1,g2,g3,g4,g5,g6,g7,g8,g9,g10,g11,g12⟩:=g;exact .zwY g1 g2 g3 g4 g5 g6 g7 g8 (by rintro rfl;simp[neT]at g9) (zf1 g11) g12 (tZ_ok g10) k
theorem Tri.dr {id:Nat}{l:List Oper}(n)(h:TriQ xg C.n l.toArray s.H (l.take n) [] s.T λal T=>TriL xg C l.toArray (l.drop n) Q<|zlC xg s.H al T)(h1:regOK l n=true:=by kernel_rfl)(h2:(zf4 (l.take n)&&zeN (l.take n))=true:=by kernel_rfl):Tri xg C (.region id l.toArray U) Q s:=.draw n Hm h1 h2 h
def covs:List (Nat×Nat×D)->Nat->Bool|[],_=>M|(a,n,_)::l,i=>match xQ a i&&xA i (a+n)with|true=>U|false=>covs l i
def zl1 (c d:D):D:=match c,d with|.val<|.slice Y 0 0,.sl k _=>.sl k []|.val<|.slice Y 0 0,.osl k _=>.osl k []|_,_=>c
theorem ztN (c d):D.Le c<|zl1 c d:=by
 unfold zl1;split;·exact .nil _
 ·exact .onil _
 ·exact .refl _
def zlp (ps:List<|Nat×Nat×D):Nat->List D->List D->List D|i,c::cs,d::ds=>(match covs ps i with|true=>c|false=>zl1 c d)::zlp ps (i+1) cs ds|_,cs,[]=>cs|_,[],_=>[]
theorem lesR:∀(cs:List D),D.Les cs cs|[]=>.nil|_::cs=>.cons (.refl _)<|lesR cs
theorem zsw {ps}:∀{cs:List D}(i:Nat)(ds:List D),D.Les cs<|zlp ps i cs ds
 |[],i,[]=>.nil|[],i,_::_=>.nil|c::cs,i,[]=>lesR _|c::cs,i,d::ds=>.cons (by
  split;·exact .refl _
  ·exact ztN c d)<|zsw (i+1) ds
theorem OpV.B {ev':Operand->Option V}{ds zc:List D}{parts:Array<|Nat×Operand}{ps:List<|Nat×Nat×D}{pl:List<|Nat×Nat}(e:D)(hz:zwT xg t=O zc)(g:(e,o.op,tP t,zhv ev' pl parts.toList,zxV (zlp ps 0 zc ds) ps)=(.agg ds,.build t parts,O pl,O ps,O ds)):OpV xg o ev' H<|.d e:=by
 simp only[yg]at g;obtain⟨g1,g2,g3,g4,g5⟩:=g;rw[g1];exact .build g2 (tP_ok g3) (.agg hz<|zsw 0 ds) g4 g5
end
theorem zvj:(tXl.all λp=>slB xg p.1 p.2)=true:=by kernel_rfl
theorem zya {t k:Nat}(h:tX t=O k):∃el,xg.underlying t=O (.slice el)/\(xg.info? el).map (·.size)=O k:=slAll zvj h
theorem zvg:tCl.all (zvB xg)=true:=by kernel_rfl
theorem zwe {f:FuncId}(h:memN tCl f=U):zvB xg f=true:=clAll zvg h
section
variable{C:Ctx}{ops:Array Oper}{Q:Exit->St->Prop}{o:Oper}{rest:List Oper}{s:St}{α β R:Type}{r:R}
theorem TriL.X {l:List α}{enc:α->D}{a:Int}{k:α->Option R}{x i:Operand}{t:TypeId}{kk:Nat}(h:(idx l a).bind k=O r)(g:(o.guard,zvU o.dst C.n,o.op,ev s.T x,ev s.T i,tX t)=(Y,U,.indexAddr t x i,O<|.d<|.sl kk<|l.map enc,O<|.d<|.int a,O kk))(f:∀v,k v=O r->TriL xg C ops rest Q (s.put o.dst<|.d<|.ref<|enc v)):TriL xg C ops (o::rest) Q s:=by
 simp only[yg]at g;obtain⟨g1,g2,g3,g4,g5,g6⟩:=g;obtain⟨v,hv,hk⟩:=zv0 h;obtain⟨el,u1,u2⟩:=zya g6;exact .op g1 g2 (.idx g3 g4 g5 u1 u2 hv)<|f v hk
theorem TriL.e {l:List α}{enc:α->D}{x:Operand}{t:TypeId}{kk k:Nat}(g:(o.guard,zvU o.dst C.n,o.op,ev s.T x,tX t)=(Y,U,.call {callee:=.builtin .len,args:=#[x],argTypes:=#[t]},O<|.d<|.sl k<|l.map enc,O kk))(f:TriL xg C ops rest Q<|s.put o.dst<|.d<|.int l.length):TriL xg C ops (o::rest) Q s:=by
 simp only[yg]at g;obtain⟨g1,g2,g3,g4,g5⟩:=g;obtain⟨el,u1,_⟩:=zya g5;exact .op g1 g2 (.len g3 u1 g4) f
theorem TriL.xc {m:Option β}{k:β->Option R}{enc:β->D}{f:FuncId}{args:Array Operand}{tys:Array TypeId}{xs:List D}(h:m.bind k=O r)(g:(o.guard,zvU o.dst C.n,o.op,memN tCl f,evs (ev s.T) args.toList)=(Y,U,.call {callee:=.value<|.func f,args:=args,argTypes:=tys},U,O xs))(hp:∀v,m=O v->Pure xg f xs (enc v))(c:∀v,k v=O r->TriL xg C ops rest Q (s.put o.dst<|.d<|enc v)):TriL xg C ops (o::rest) Q s:=by
 simp only[yg]at g;obtain⟨g1,g2,g3,g4,g5⟩:=g;obtain⟨v,hv,hk⟩:=zv0 h;exact .op g1 g2 (.call g3 (zwe g4) g5<|hp v hv)<|c v hk
variable{N d:Nat}{H:List Blk}{al:List Ev}{K:List Ev->List (Nat×V)->Prop}{T:List<|Nat×V}
theorem TriQ.X {l:List α}{enc:α->D}{a:Int}{k:α->Option R}{x i:Operand}{t:TypeId}{kk:Nat}(h:(idx l a).bind k=O r)(g:(o.guard,o.dst,xA d N,zap o,o.op,ev T x,ev T i,tX t)=(Y,O d,U,M,.indexAddr t x i,O<|.d<|.sl kk<|l.map enc,O<|.d<|.int a,O kk))(f:∀v,k v=O r->TriQ xg N ops H rest al ((d,.d<|.ref<|enc v)::T) K):TriQ xg N ops H (o::rest) al T K:=by
 simp only[yg]at g;obtain⟨g1,g2,g2',g2'',g3,g4,g5,g6⟩:=g;obtain⟨v,hv,hk⟩:=zv0 h;obtain⟨el,u1,u2⟩:=zya g6;exact .op g1 g2 g2' g2'' (.idx g3 g4 g5 u1 u2 hv)<|f v hk
theorem TriQ.e {l:List α}{enc:α->D}{x:Operand}{t:TypeId}{kk k:Nat}(g:(o.guard,o.dst,xA d N,zap o,o.op,ev T x,tX t)=(Y,O d,U,M,.call {callee:=.builtin .len,args:=#[x],argTypes:=#[t]},O<|.d<|.sl k<|l.map enc,O kk))(f:TriQ xg N ops H rest al ((d,.d<|.int l.length)::T) K):TriQ xg N ops H (o::rest) al T K:=by
 simp only[yg]at g;obtain⟨g1,g2,g2',g2'',g3,g4,g5⟩:=g;obtain⟨el,u1,_⟩:=zya g5;exact .op g1 g2 g2' g2'' (.len g3 u1 g4) f
theorem TriQ.qe {l:List α}{enc:α->D}{x:Operand}{t:TypeId}{kk k j w:Nat}{b:Bool}(g:(o.guard,ops[j]?.bind (·.dst),look w T,o.dst,xA d N,zap o,o.op,ev T x,tX t)=(O (j,b),O w,O<|.d<|.bool b,O d,U,M,.call {callee:=.builtin .len,args:=#[x],argTypes:=#[t]},O<|.d<|.sl k<|l.map enc,O kk))(f:TriQ xg N ops H rest al ((d,.d<|.int l.length)::T) K):TriQ xg N ops H (o::rest) al T K:=by
 simp only[yg]at g;obtain⟨g0,g1,g2,g2',g2'',g3,g4,g5,g6⟩:=g;obtain⟨el,u1,_⟩:=zya g6;exact .gop g0 g1 g2 g2' g2'' g3 (.len g4 u1 g5) f
theorem TriQ.xc {m:Option β}{k:β->Option R}{enc:β->D}{f:FuncId}{args:Array Operand}{tys:Array TypeId}{xs:List D}(h:m.bind k=O r)(g:(o.guard,o.dst,xA d N,zap o,o.op,memN tCl f,evs (ev T) args.toList)=(Y,O d,U,M,.call {callee:=.value<|.func f,args:=args,argTypes:=tys},U,O xs))(hp:∀v,m=O v->Pure xg f xs (enc v))(c:∀v,k v=O r->TriQ xg N ops H rest al ((d,.d<|enc v)::T) K):TriQ xg N ops H (o::rest) al T K:=by
 simp only[yg]at g;obtain⟨g1,g2,g2',g2'',g3,g4,g5⟩:=g;obtain⟨v,hv,hk⟩:=zv0 h;exact .op g1 g2 g2' g2'' (.call g3 (zwe g4) g5<|hp v hv)<|c v hk
end
end
section
def zxC:Nat->Prop:=λ_=>False
structure Dec (P:Program)(t:TypeId)(α:Type)where
 k:Nat
 pos:0<k
 cells:P.cellsOf t=k
 flat:α->List D
 el:α->D
 good:α->Prop
 opens:∀{H:Type}{enc:TypeId×Value->H}{w:World}{sp:Nat->Bool}{held:Bool}{fuel:Nat}{cs:List Value}{x:DataW H×List MemPlace},DataW.trod enc P w 0 sp held fuel t cs=O x->∃a,xu zxC w (flat a) cs/\good a
 elOK:∀{w:World}{a:α}{cs:List Value},xu zxC w (flat a) cs->∃u,xC zxC w (el a) u/\u.cells.toList=cs
 arg:∀{w:World}{r:Reach}{base:Nat}{v:Value}{a:α},Value.okWide P w r base t v->xu zxC w (flat a) v.cells.toList->xC zxC w (el a) v
theorem zhh {A w d v}(h:xC A w d v):xu A w [d] [v]:=by simp only[xu];simp_all
theorem zcD {A w d cs}(h:xu A w [d] cs):∃v,cs=[v]/\xC A w d v:=by simp only[xu]at h;simp_all
theorem zpM {A w}:∀{xs ys}{vs us},xu A w xs vs->xu A w ys us->xu A w (xs++ys) (vs++us)|[],ys,vs,us,h,k=>by grind[xu]|x::xs,ys,vs,us,h,k=>by obtain⟨v,a,rfl,c,b⟩:=h;exact⟨v,a++us,rfl,c,zpM b k⟩
variable{P:Program}
theorem zrl {n}(h:(Lit.int .i64 n).wf=U):-9223372036854775808<=n/\n<=9223372036854775807:=by
 have b:IntKind.min .i64=-9223372036854775808:=by decide
 have a:IntKind.max .i64=9223372036854775807:=by decide
 simp only[Lit.wf,yc,yf]at h;exact h
def zuY {t:TypeId}(ht:P.underlying t=O (.int .i64))(hc:P.cellsOf t=1):Dec P t Int where
 k:=1
 pos:=by decide
 cells:=hc
 flat n:=[.int n]
 el n:=.int n
 good n:=-9223372036854775808<=n/\n<=9223372036854775807
 opens h:=by obtain⟨n,rfl,-,hr⟩:=DataW.trod_int ht h;exact⟨n,zhh<|by simp only[xC],zrl hr⟩
 elOK{w a cs}h:=by obtain⟨v,rfl,h1⟩:=zcD h;simp only[xC]at h1;subst h1;exact⟨.int .i64 a,by simp only[xC],rfl⟩
 arg hv h:=by obtain⟨n,rfl⟩:=WideShapes.okWide_int ht hv;obtain⟨v,hv',h1⟩:=zcD h;obtain rfl:=vF hv';exact h1
def ztY {t:TypeId}(ht:P.underlying t=O .bool)(hc:P.cellsOf t=1):Dec P t Bool where
 k:=1
 pos:=by decide
 cells:=hc
 flat n:=[.bool n]
 el n:=.bool n
 good _:=True
 opens h:=by obtain⟨n,rfl,-⟩:=DataW.trod_bool ht h;exact⟨n,zhh<|by simp only[xC],trivial⟩
 elOK{w a cs}h:=by obtain⟨v,rfl,h1⟩:=zcD h;simp only[xC]at h1;subst h1;exact⟨.bool a,by simp only[xC],rfl⟩
 arg hv h:=by obtain⟨n,rfl⟩:=WideShapes.okWide_bool ht hv;obtain⟨v,hv',h1⟩:=zcD h;obtain rfl:=vF hv';exact h1
def zuZ {t:TypeId}(ht:P.underlying t=O .string)(hc:P.cellsOf t=1):Dec P t<|List UInt8 where
 k:=1
 pos:=by decide
 cells:=hc
 flat s:=[.str s]
 el s:=.str s
 good _:=True
 opens h:=by obtain⟨s,rfl,-,-⟩:=DataW.trod_string ht h;exact⟨s.data.toList,zhh<|by simp only[xC],trivial⟩
 elOK{w a cs}h:=by obtain⟨v,rfl,h1⟩:=zcD h;simp only[xC]at h1;subst h1;exact⟨.string ⟨a.toArray⟩,by simp only[xC],rfl⟩
 arg hv h:=by obtain⟨n,rfl⟩:=WideShapes.okWide_string ht hv;obtain⟨v,hv',h1⟩:=zcD h;obtain rfl:=vF hv';exact h1
theorem zjR {α}{t e:TypeId}(d:Dec P e α){H}{enc}{w}{sp}{held}{n}{b off}:∀(m)(DD:Nat->DataW H)(Pl:Nat->List MemPlace)(o),(∀i,i<m->∃cs',w.cells? 0 ((⟨b,off,Y⟩:Addr).add<|(o+i)*P.cellsOf e) (P.cellsOf e)=O cs'/\DataW.trod enc P w 0 sp held n e cs'=O (DD i,Pl i))->∃l:List α,(l.length=m/\∀x∈l,d.good x)/\D.row zxC w b d.k (l.map d.el) (off+o*d.k)
 |0,_,_,_,_=>⟨[],⟨rfl,by simp⟩,by grind[D.row]⟩|m+1,DD,Pl,o,h=>by
  obtain⟨cs',p,q⟩:=h 0 (by omega);obtain⟨a,r,E⟩:=d.opens q;obtain⟨u,c,f⟩:=d.elOK r;obtain⟨l,⟨s,v⟩,y⟩:=zjR (t:=t) d m (λi=>DD<|i+1) (λi=>Pl<|i+1) (o+1) λi C=>by
   have:=h (i+1)<|by omega
   rwa[show o+(i+1)=o+1+i by omega]at this
  refine⟨a::l,⟨by grind,λx B=>by grind⟩,?_⟩;obtain⟨-,z,A⟩:=World.cells?_some p;have g:u.cells.size=d.k:=by rw[<-yF,f,z,d.cells]
  refine⟨⟨u,c,λj F=>?_,g⟩,?_⟩
  ·have:=A j (by grind);rw[uy,d.cells,Deep.add_add]at this;have k:(⟨b,off,Y⟩:Addr).add (o*d.k+j)=⟨b,off+o*d.k+j,Y⟩:=by
    unfold Addr.add;grind
   grind
  grind
def zyl {α:Type}{t e:TypeId}(d:Dec P e α)(ht:P.underlying t=O (.slice e))(hc:P.cellsOf t=1):Dec P t<|List α where
 k:=1
 pos:=by decide
 cells:=hc
 flat l:=[.sl d.k<|l.map d.el]
 el l:=.sl d.k<|l.map d.el
 good l:=∀x∈l,d.good x
 opens{H enc w sp held fuel cs x}h:=by
  rcases Deep.open_slice ht h with⟨rfl,-⟩|⟨a,len,cap,m,n,DD,Pl,rfl,-,hl,-,hm,-,hx⟩;·exact⟨[],zhh<|by simp only[wB,xC,uq];exact⟨Y,0,rfl,ym _,.inl trivial⟩,by simp⟩
  ·have hlm:len<=m:=by rw[hm];split<;>omega
   cases len with|zero=>exact⟨[],zhh<|by simp only[wB,xC,uq];exact⟨_,cap,rfl,yn _,.inl trivial⟩,by simp⟩|succ len=>
    obtain⟨cs',h1,h2⟩:=hx 0 (by omega);obtain⟨-,c2,c3⟩:=World.cells?_some h1;have hp:=d.pos;have h0:=c3 0 (by rw[d.cells];omega);rw[Nat.zero_mul]at h0;have ha:(a.add 0).add 0=a:=by simp[Addr.add]
    rw[ha]at h0;have hsome:∃v,w.cell? a=O v:=by rw[h0];exact⟨_,yA<|show 0<cs'.length by rw[c2,d.cells];omega⟩
    obtain⟨v,hv⟩:=hsome;obtain⟨b,off,sp'⟩:=a;have hsp:sp'=none:=by
     unfold World.cell? at hv;simp only[]at hv;split at hv;·cases sp' with|none=>rfl|some z=>simp at hv
     ·cases hv
    subst hsp;have hb:b<w.heap.size:=by
     unfold World.cell? at hv;simp only[]at hv;split at hv;·rename_i hh;exact(yk.1 hh).1
     ·cases hv
    obtain⟨l,⟨l1,lg⟩,l2⟩:=zjR (t:=t) d (b:=b) (off:=off) (len+1) DD Pl 0 λi hi=>by obtain⟨cs2,q1,q2⟩:=hx i (by omega);exact⟨cs2,by rw[uh];exact q1,q2⟩
    refine⟨l,zhh ?_,lg⟩;simp only[xC];refine⟨_,cap,by rw[yI,l1],by rw[yI,l1];exact hl,.inr ⟨b,off,rfl,λhf=>hf,hb,?_⟩⟩;simpa using l2
 elOK h:=by obtain⟨v,rfl,h1⟩:=zcD h;refine⟨v,h1,?_⟩;simp only[xC]at h1;obtain⟨a,cap,rfl,-⟩:=h1;rfl
 arg hv h:=by obtain⟨b,len,cap,rfl⟩:=WideShapes.okWide_slice ht hv;obtain⟨v,hv',h1⟩:=zcD h;obtain rfl:=vF hv';exact h1
structure DecF (P:Program)(off:Nat)(fs:List Field)(α:Type)where
 k:Nat
 flat:α->List D
 good:α->Prop
 opens:∀{H:Type}{enc:TypeId×Value->H}{w:World}{sp:Nat->Bool}{held:Bool}{fuel:Nat}{cs:List Value},cs.length=off+k->(∀f∈fs,∃x:DataW H×List MemPlace,DataW.trod enc P w 0 sp held fuel f.type ((cs.drop f.offset).take<|P.cellsOf f.type)=O x)->∃a,xu zxC w (flat a) (cs.drop off)/\good a
def fNil {off:Nat}:DecF P off [] Unit where
 k:=0
 flat _:=[]
 good _:=True
 opens hl _:=⟨(),by rw[List.drop_of_length_le<|by omega];simp only[xu],trivial⟩
def zv2 {α β:Type}{off off':Nat}{f:Field}{fs:List Field}{t:TypeId}(d:Dec P t α)(ht:f.type=t)(ho:f.offset=off)(r:DecF P off' fs β)(hoff:off+d.k=off'):DecF P off (f::fs)<|α×β where
 k:=d.k+r.k
 flat a:=d.flat a.1++r.flat a.2
 good a:=d.good a.1/\r.good a.2
 opens{H enc w sp held fuel cs}hl h:=by
  subst hoff;obtain⟨x,hx⟩:=h f (by simp);rw[ht,ho,d.cells]at hx;obtain⟨a,ha,ga⟩:=d.opens hx;obtain⟨b,hb,gb⟩:=r.opens (by omega) λg hg=>h g<|by simp[hg]
  refine⟨(a,b),?_,ga,gb⟩;have e:cs.drop off=(cs.drop off).take d.k++cs.drop (off+d.k):=by rw[<-List.drop_drop,uC]
  rw[e];exact zpM ha hb
def decS {α β:Type}{t:TypeId}{fs:Array Field}(ht:P.underlying t=O (.struct fs))(F:DecF P 0 fs.toList α)(hc:P.cellsOf t=F.k)(hp:0<F.k)(mk:α->β)(flat:β->List D)(hflat:∀a,flat (mk a)=F.flat a):Dec P t β where
 k:=F.k
 pos:=hp
 cells:=hc
 flat:=flat
 el b:=.agg<|flat b
 good b:=∃a,mk a=b/\F.good a
 opens{H enc w sp held fuel cs x}h:=by
  obtain⟨xs,n,-,-,hl,hsz,hf⟩:=DataW.trod_struct ht h;obtain⟨a,ha,ga⟩:=F.opens (enc:=enc) (w:=w) (sp:=sp) (held:=held) (fuel:=n) (cs:=cs) (by omega) λf hm=>by
   obtain⟨i,hi,rfl⟩:=List.mem_iff_getElem.1 hm;have h1:=hf i _ (by rw[<-y6];exact yA hi);rw[h1];have hix:i<xs.length:=by rw[hsz,<-yF];exact hi
   exact⟨_,yA hix⟩
  refine⟨mk a,?_,a,rfl,ga⟩;rw[hflat];simpa using ha
 elOK{w a cs}h:=by refine⟨.agg cs.toArray,?_,rfl⟩;simp only[xC];exact⟨cs.toArray,rfl,by simpa using h⟩
 arg{w r base v a}hv h:=by obtain⟨cs,rfl,-⟩:=WideShapes.okWide_struct ht hv;simp only[xC];exact⟨cs,rfl,h⟩
theorem Dec.zAa {α}{t}(d:Dec P t α){H}{enc}{w sp held}{r}{base v}{dd:DataW H}{ps}(hv:Value.okWide P w r base t v)(h:DataW.Trod enc P w 0 sp held t v dd ps):∃a,xC zxC w (d.el a) v:=by obtain⟨b,e⟩:=h;obtain⟨a,c,-⟩:=d.opens e;exact⟨a,d.arg hv c⟩
variable[Drw]
theorem ziP {H}{enc}(hl:laidOutB P=U){W W'}(hb:Fr ze W W'){sp}:∀{ts}{vs}{ds:List<|DataW H}{ps},(∀t∈ts,P.readableRec t=U/\t<P.types.size)->DataW.TrodAll enc P W 0 (λ_=>U) U ts vs ds ps->(∀p∈ps,p.block<W.heap.size)->(∀p∈ps,sp p.block=U)->DataW.TrodAll enc P W' 0 sp U ts vs ds ps|[],vs,ds,ps,_,h,_,_=>by obtain⟨rfl,rfl,rfl⟩:=ChangeShapes.trodAll_nil h;exact ChangeShapes.trodAll_mk0|t::ts,vs,ds,ps,e,h,a,g=>by obtain⟨v,i,d,l,p,q,rfl,rfl,rfl,j,k⟩:=ChangeShapes.trodAll_cons h;refine⟨p,q,WideElems.Trod_stays hl (e t<|by simp).1 (e t<|by simp).2 j (λx f=>?_) λx f=>g x<|by grind,ziP hl hb (λu m=>e u<|by grind) k (λx f=>a x<|by grind) λx f=>g x<|by grind,rfl⟩;have c:=a x (by grind);cases x with|cell b o=>exact wY (w:=W)<|hb.block b c λh=>h|map b=>exact hb.block b c λh=>h
theorem zrJ {H}{enc}{f}{s:ChangeSpec}{W W' args v}{ds gs}{before}(hW:DataW.Whole enc P f.params.toList s.vars M W args.toList ds gs before)(hvars:s.vars=[])(hx:(s.fn H<|ds++gs).args=ds)(hy:(s.fn H<|ds++gs).vars=[])(hl:laidOutB P=U)(hr:∀t∈f.params.toList,P.readableRec t=U/\t<P.types.size)(hf:Fr ze W W')(hres:∀(b)(sp)(hd),DataW.TrodAll enc P W' b sp hd f.resultTypes.toList (v.resultList f.resultTypes.size) (s.fn H<|ds++gs).results []):s.post enc P f M U M M W args v W':=by
 have e:Below W.heap.size W W':=⟨hf.os,hf.tape,hf.output,hf.size,λk j=>hf.block k j λh=>h⟩;have i:=λp g=>hW.lt p g;obtain⟨p,q,l,d,rfl,-,-⟩:=id hW;rw[hvars]at d;obtain⟨rfl,rfl⟩:=ChangeShapes.trodVars_none d;have a:∀sp,(∀x∈p,sp x.block=U)->DataW.TrodAll enc P W' 0 sp U f.params.toList args.toList (s.fn H<|ds++[]).args p:=λsp m=>by grind[ziP]
 have c:∀sp,DataW.TrodVars enc P W' sp s.vars (s.fn H<|ds++[]).vars []:=λsp=>by rw[hvars,hy];rfl
 exact⟨ds,[],p++[],[],p,[],hW,hres _ _ _,a _ λx hx=>by simp_all,c _,e.frame _,λh=>by cases h⟩
end
noncomputable def dInt:Dec xg 3 Int:=zuY Tryz.underlying3<|by kernel_rfl
noncomputable def dBool:Dec xg 4 Bool:=ztY Tryz.underlying4<|by kernel_rfl
noncomputable def dStr:Dec xg 9<|List UInt8:=zuZ Tryz.underlying9<|by kernel_rfl
noncomputable def dInts:Dec xg 22<|List Int:=zyl dInt Tryz.underlying22<|by kernel_rfl
noncomputable def dStrs:Dec xg 24<|List<|List UInt8:=zyl dStr Tryz.underlying24<|by kernel_rfl
noncomputable def zuV:Dec xg 83 Range:=decS (α:=Int×Int×Unit) Tryz.underlying83 (zv2 dInt rfl rfl (zv2 dInt rfl rfl fNil rfl) rfl) (by kernel_rfl) (by decide) (λx=>⟨x.1,x.2.1⟩) (λx=>[.int x.lo,.int x.hi]) λ_=>rfl
noncomputable def dTerm:Dec xg 109 Term:=decS (α:=Int×Int×Unit) Tryz.underlying109 (zv2 dInt rfl rfl (zv2 dInt rfl rfl fNil rfl) rfl) (by kernel_rfl) (by decide) (λx=>⟨x.1,x.2.1⟩) (λx=>[.int x.cell,.int x.zvy]) λ_=>rfl
noncomputable def zuX:Dec xg 53<|List Term:=zyl dTerm Tryz.underlying53<|by kernel_rfl
noncomputable def dRow:Dec xg 55 Row:=decS (α:=List Term×Int×Unit) Tryz.underlying55 (zv2 zuX rfl rfl (zv2 dInt rfl rfl fNil rfl) rfl) (by kernel_rfl) (by decide) (λx=>⟨x.1,x.2.1⟩) (λx=>[.sl 2<|x.zvr.map wQ,.int x.bound]) λ_=>rfl
noncomputable def zuW:Dec xg 107 Table:=decS (α:=List UInt8×Int×List Int×Range×Int×Unit) Tryz.underlying107 (zv2 dStr rfl rfl (zv2 dInt rfl rfl (zv2 dInts rfl rfl (zv2 zuV rfl rfl (zv2 dInt rfl rfl fNil rfl) rfl) rfl) rfl) rfl) (by kernel_rfl) (by decide) (λx=>⟨x.1,x.2.1,x.2.2.1,x.2.2.2.1,x.2.2.2.2.1⟩) (λx=>[.str x.name,.int x.kind,.sl 1<|x.zvo.map xt,.int x.range.lo,.int x.range.hi,.int x.first]) λ_=>rfl
noncomputable def ztV:Dec xg 23<|List Table:=zyl zuW Tryz.underlying23<|by kernel_rfl
noncomputable def dCon:Dec xg 57 Constraint:=decS (α:=Int×Int×Row×Int×Int×Unit) Tryz.underlying57 (zv2 dInt rfl rfl (zv2 dInt rfl rfl (zv2 dRow rfl rfl (zv2 dInt rfl rfl (zv2 dInt rfl rfl fNil rfl) rfl) rfl) rfl) rfl) (by kernel_rfl) (by decide) (λx=>⟨x.1,x.2.1,x.2.2.1,x.2.2.2.1,x.2.2.2.2.1⟩) (λx=>[.int x.kind,.int x.family,.sl 2<|x.row.zvr.map wQ,.int x.row.bound,.int x.first,.int x.size]) λ_=>rfl
noncomputable def dCons:Dec xg 25<|List Constraint:=zyl dCon Tryz.underlying25<|by kernel_rfl
noncomputable def dOper:Dec xg 111 zvX:=decS (α:=List UInt8×Bool×List Int×Unit) Tryz.underlying111 (zv2 dStr rfl rfl (zv2 dBool rfl rfl (zv2 dInts rfl rfl fNil rfl) rfl) rfl) (by kernel_rfl) (by decide) (λx=>⟨x.1,x.2.1,x.2.2.1⟩) (λx=>[.str x.name,.bool x.ordered,.sl 1<|x.zvu.map xt]) λ_=>rfl
noncomputable def zuT:Dec xg 26<|List zvX:=zyl dOper Tryz.underlying26<|by kernel_rfl
noncomputable def ztT:Dec xg 113 Change:=decS (α:=Int×Int×Unit) Tryz.underlying113 (zv2 dInt rfl rfl (zv2 dInt rfl rfl fNil rfl) rfl) (by kernel_rfl) (by decide) (λx=>⟨x.1,x.2.1⟩) (λx=>[.int x.cell,.int x.add]) λ_=>rfl
noncomputable def zsG:Dec xg 73<|List Change:=zyl ztT Tryz.underlying73<|by kernel_rfl
noncomputable def dRows:Dec xg 74<|List Row:=zyl dRow Tryz.underlying74<|by kernel_rfl
noncomputable def ztX:Dec xg 243 zwg:=decS (α:=Int×Int×Int×Unit) Tryz.underlying243 (zv2 dInt rfl rfl (zv2 dInt rfl rfl (zv2 dInt rfl rfl fNil rfl) rfl) rfl) (by kernel_rfl) (by decide) (λx=>⟨x.1,x.2.1,x.2.2.1⟩) (λx=>[.int x.kind,.int x.cell,.int x.value]) λ_=>rfl
noncomputable def zsH:Dec xg 75<|List zwg:=zyl ztX Tryz.underlying75<|by kernel_rfl
noncomputable def ztU:Dec xg 77 zwf:=decS (α:=List Change×List Row×List zwg×Unit) Tryz.underlying77 (zv2 zsG rfl rfl (zv2 dRows rfl rfl (zv2 zsH rfl rfl fNil rfl) rfl) rfl) (by kernel_rfl) (by decide) (λx=>⟨x.1,x.2.1,x.2.2.1⟩) (λx=>[.sl 2<|x.delta.map Change.enc,.sl 2<|x.hold.map xM,.sl 3<|x.zvw.map zwg.enc]) λ_=>rfl
noncomputable def ztS:Dec xg 79 Action:=decS (α:=Int×List Int×zwf×Unit) Tryz.underlying79 (zv2 dInt rfl rfl (zv2 dInts rfl rfl (zv2 ztU rfl rfl fNil rfl) rfl) rfl) (by kernel_rfl) (by decide) (λx=>⟨x.1,x.2.1,x.2.2.1⟩) (λx=>[.int x.operation,.sl 1<|x.arguments.map xt,.sl 2<|x.effect.delta.map Change.enc,.sl 2<|x.effect.hold.map xM,.sl 3<|x.effect.zvw.map zwg.enc]) λ_=>rfl
noncomputable def zsF:Dec xg 27<|List Action:=zyl ztS Tryz.underlying27<|by kernel_rfl
noncomputable def dHide:Dec xg 202 Hide:=decS (α:=Int×Int×Int×Unit) Tryz.underlying202 (zv2 dInt rfl rfl (zv2 dInt rfl rfl (zv2 dInt rfl rfl fNil rfl) rfl) rfl) (by kernel_rfl) (by decide) (λx=>⟨x.1,x.2.1,x.2.2.1⟩) (λx=>[.int x.table,.int x.column,.int x.to]) λ_=>rfl
noncomputable def zuR:Dec xg 28<|List Hide:=zyl dHide Tryz.underlying28<|by kernel_rfl
noncomputable def zuS:Dec xg 30 Model:=decS (α:=List Int×List Table×List (List UInt8)×List Constraint×List zvX×List Action×List Hide×Unit) Tryz.underlying30 (zv2 dInts rfl rfl (zv2 ztV rfl rfl (zv2 dStrs rfl rfl (zv2 dCons rfl rfl (zv2 zuT rfl rfl (zv2 zsF rfl rfl (zv2 zuR rfl rfl fNil rfl) rfl) rfl) rfl) rfl) rfl) rfl) (by kernel_rfl) (by decide) (λx=>⟨x.1,x.2.1,x.2.2.1,x.2.2.2.1,x.2.2.2.2.1,x.2.2.2.2.2.1,x.2.2.2.2.2.2.1⟩) (λx=>[.sl 1<|x.zvu.map xt,.sl 6<|x.tables.map wm,.sl 1<|x.zvC.map wL,.sl 6<|x.constraints.map wu,.sl 3<|x.zvs.map zvX.enc,.sl 5<|x.zvq.map wR,.sl 3<|x.zvD.map Hide.enc]) λ_=>rfl
noncomputable def ztW:Dec xg 32 Target:=decS (α:=Bool×Int×Unit) Tryz.underlying32 (zv2 dBool rfl rfl (zv2 dInt rfl rfl fNil rfl) rfl) (by kernel_rfl) (by decide) (λx=>⟨x.1,x.2.1⟩) (λx=>[.bool x.hold,.int x.index]) λ_=>rfl
noncomputable def zuU:Dec xg 34 Question:=decS (α:=Int×Int×Target×Unit) Tryz.underlying34 (zv2 dInt rfl rfl (zv2 dInt rfl rfl (zv2 ztW rfl rfl fNil rfl) rfl) rfl) (by kernel_rfl) (by decide) (λx=>⟨x.1,x.2.1,x.2.2.1⟩) (λx=>[.int x.e,.int x.f,.bool x.target.hold,.int x.target.index]) λ_=>rfl
noncomputable def dSwap:Dec xg 64 Swap:=decS (α:=Int×Int×Int×Unit) Tryz.underlying64 (zv2 dInt rfl rfl (zv2 dInt rfl rfl (zv2 dInt rfl rfl fNil rfl) rfl) rfl) (by kernel_rfl) (by decide) (λx=>⟨x.1,x.2.1,x.2.2.1⟩) (λx=>[.int x.sort,.int x.a,.int x.b]) λ_=>rfl
theorem type0:((begin xg (λ_ _=>0) J).world.heap[0]?.bind Obj.row?).map (·.2)=O 336:=by kernel_rfl
theorem zt0 {W}(hL:laidMetH xg Rows.pairDecidesRow.laid W)(hS:W.ShapedOpen xg):zdD zxC W:=by
 intro p f;have e:=by simpa[xI]using f
 refine⟨λh=>h,?_⟩;have e:(Rows.laid_strings_asciiSpace:DataW Unit)=Lib.tabData .u8 tab0:=by kernel_rfl
 have c:laidMet Tryz.prog [("strings.asciiSpace",Lib.tabData .u8 tab0)] W:=by rw[←e]; exact hL.tail
 have d:=Lib.tabIs_of_head (g:=0) (t:=336) (e:=5) (n:=256) (by kernel_rfl) (by kernel_rfl) Tryz.underlying336 Tryz.underlying5 (by kernel_rfl) (by kernel_rfl) c;obtain⟨⟨a,t⟩,i,rfl⟩:=Option.map_eq_some_iff.1 type0;obtain⟨k,j,-,-⟩:=hS.1 0 a 336 (by simp_all) i;have b:=d;unfold Lib.TabIs World.var? at b;rw[show Tryz.prog.globalNamed "strings.asciiSpace" =some 0 by kernel_rfl]at b;simp_all
