/- Part of the proof of one law of the seat. -/
import Derived.Test.YtipkniadbkndfaaGreatDoorSm10
import Derived.Test.YtipkniadbkndfaaGreatDoorSm10b
set_option linter.all false
set_option maxRecDepth 100000
set_option maxHeartbeats 40000000
namespace Go.Proofs.YtipkniadbkndfaaGreatDoor
open Go Go.RowKit
open Option renaming some->O
open Bool renaming false->M
open Inhabited renaming default->J
open List renaming length->xh,map->xn
open Tree renaming enc->xo
open D renaming bool->xp,int->xt
open Range renaming enc->xy
open _root_.Go.Proofs.YtipkniadbkndfaaGreatDoor.Row renaming enc->xM
open Step renaming enc->wA
open System renaming enc->w9
section
set_option maxRecDepth 100000
set_option maxHeartbeats 40000000
abbrev wE4:=(.box 91 [.d<|.int 0,.d<|.int 0,.d<|eB [],.d<|.int 0,.d<|.sl 3<|xn wA [],.d<|.int 0,.d<|.int 0,.d<|.sl 5<|xn xo [],.d<|.int 0]:Blk)
abbrev wE5 a b c d e:=(.box 132 [.d<|eC a,.d<|eL b,.d<|eM c,.d<|eN d,.d<|eL b,.d<|.int e,.d<|.int 0]:Blk)
abbrev wE6:=(.box 134 [.d<|.osl 1<|xn xt [],.d<|.int 0,.d<|.int 0,.d<|.sl 3<|xn wA [],.d<|.int 0,.d<|.int 0,.d<|.sl 5<|xn xo []]:Blk)
instance slices_Equal_Lint_int_ok:Kd2 16 zaA (slE 1 xt) (slE 1 xt) xp:=⟨λn t0 t1 r h=>.ot Tryz.func16 I Tryz.ntmps16 I λ_ _=>have:HL 4 [0,1,12] (λv:Int=>[(13,.d<|.int v)]) λ_ _=>[]:=⟨⟩;walk h⟩
instance system_looked_1_ok:Kd1 150 zd1 xt xp:=⟨λn t0 r h=>.ot Tryz.func150 I Tryz.ntmps150 I λ_ _=>walk h⟩
instance system_looked_ok:Kd2 89 zeO w9 (slE 1 xt) xp:=⟨λn t0 t1 r h=>.ot Tryz.func89 I Tryz.ntmps89 I λ_ _=>walk h⟩
instance interval_Contains_ok:Kd2 90 zaG (slE 2 xy) (slE 1 xt) xp:=⟨λn t0 t1 r h=>.ot Tryz.func90 I Tryz.ntmps90 I λ_ _=>have:HL 4 [1,12,13] (λv:Int=>[(14,.d<|.int v)]) λ_ _=>[]:=⟨⟩;walk h⟩
instance system_value_ok:Kd2 225 zch xM (slE 1 xt) xt:=⟨λn t0 t1 r h=>.ot Tryz.func225 I Tryz.ntmps225 I λ_ _=>have:HL 3 [1,9,10] (λv:Int×Int=>[(5,.d<|.int v.1),(11,.d<|.int v.2)]) λ_ _=>[]:=⟨⟩;walk h⟩
instance system_holds_ok:Kd2 190 zez xM (slE 1 xt) xp:=⟨λn t0 t1 r h=>.ot Tryz.func190 I Tryz.ntmps190 I λ_ _=>walk h⟩
instance system_numbers_ok:Kd1 226 zaZ xt<|slE 1 xt:=⟨λn t0 r h=>.ot Tryz.func226 I Tryz.ntmps226 I λ_ _=>have:HL 3 [8] (λv:List Int×Int=>[(3,.vec 0<|xh v.1),(9,.d<|.int v.2)]) λ_ v=>[(0,.vec 3 1<|xn xt v.1)]:=⟨⟩;walk h⟩
instance system_acyclic_1_1_ok:Kd5 228 zbH xt (λt1=>.ref<|eK t1) (λt2=>.ref<|eB t2) (λt3=>.ref<|zvP.enc t3) (λt4=>.ref<|.int t4) xp:=⟨λn t0 t1 t2 t3 t4 r h=>.ot Tryz.func228 I Tryz.ntmps228 I λ_ _=>walk h⟩
instance system_acyclic_1_ok:Kd4 227 zdv xt (λt1=>.ref<|eK t1) (λt2=>.ref<|zvP.enc t2) (λt3=>.ref<|eB t3) xp:=⟨λn t0 t1 t2 t3 r h=>.ot Tryz.func227 I Tryz.ntmps227 I λ_ _=>walk h⟩
theorem zjn:Kx2 191 zbk zvP.enc eB .bool:=λn t0 t1 r h=>by
 refine .ot Tryz.func191 I Tryz.ntmps191 I λA w=>.sA 3 I<|.S 2 I<|bK h λx1 q1 h=>.zxX (enc:=xp) (z:=(M:Bool)) I I I I E173 I I I (.val Zv4) q1<|.zwB I I I I (.nil (k:=1) Zv173) I<|.store I I I I I I (.cons (.vec I<|by simp) .nil) C173 I (yt I)<|.nil<|.seq<|.sA 3 I<|.block<|.L [2,3,5,11] h (λv=>[(12,.d<|.int v.2)]) (λv=>[(0,.vec 4 1<|xn xp v.1),(1,.box 173 [.vec 0<|xh v.1])]) I λ_⟨b0_14,x15⟩h=>.sA 1 I<|.K [2,3,5,11,12,13] I<|.seq<|.zvG I h (λh=>?_) λh=>?_
 ·refine .skip<|.seq<|.block<|.S 2 I<|.xc h I (system_numbers_ok _ _) λx17 h=>.p I (.zxe I I)<|bK h λx18 q18 h=>.p I (.callB I (zwe I) (.cons I (.d _)<|.cons I (.fn .nil<|.cons (.loc1 I (.vec I<|by simp) I)<|.v .v1) .nil) I<|slices_IndexFunc_Lint_int_ok _ _ _ _ (λq0 y hq=>⟨_,_,I,K227,system_acyclic_1_ok _ q0 _ _ _ _ hq⟩) _ q18)<|.A 1 I<|.nil<|.seq<|.sA 2 I<|.zvG I h (λh=>?_) λh=>?_;·refine .sA 1 I<|.ret<|rO h I
  ·refine .skip<|.region<|.A 2 I<|bK h λx19 q19 h=>.p I (.idxV I I I I I U173 S4 q19)<|bK h λb0_20 hb0_20 h=>.zwQ (enc:=xp) I I I I I I I I I C4 hb0_20<|.zxj 21 I (zcp hb0_20)<|.zxQ 1 0 I I (zcp hb0_20)<|.nil<|.rA 2 I<|ndE h I
 ·refine .exit<|.sA 1 I<|.ret<|rO h I
instance system_acyclic_i:Kd2 191 zbk zvP.enc (slE 1 xt) xp:=⟨λn t0 t1 r h=>zjn n t0 t1 r h⟩
instance system_fails_ok:Kd2 151 zaC w9 (slE 1 xt) λr=>.tup [eB r.1,eB r.2]:=⟨λn t0 t1 r h=>.ot Tryz.func151 I Tryz.ntmps151 I λ_ _=>have:HS 7:=⟨⟩;have:HS 6:=⟨⟩;have:HJ 7 [1,2,7,13,14,15] (λv:List Int=>[(6,.vec 0<|xh v)]) λ_ v=>[(0,.vec 3 1<|xn xt v)]:=⟨⟩;have:HJ 13 [1,6,30,31,32] (λv:List Int=>[(7,.vec 1<|xh v)]) λ_ v=>[(1,.vec 3 1<|xn xt v)]:=⟨⟩;have:HL 9 [1,6,30,31] (λv:List Int×Int=>[(7,.vec 1<|xh v.1),(32,.d<|.int v.2)]) λ_ v=>[(1,.vec 3 1<|xn xt v.1)]:=⟨⟩;have:HL 3 [1,2,7,13,14] (λv:List Int×Int=>[(6,.vec 0<|xh v.1),(15,.d<|.int v.2)]) λ_ v=>[(0,.vec 3 1<|xn xt v.1)]:=⟨⟩;walk h⟩
instance system_alternative_1_ok:Kd2 192 zcs xM (λt1=>.ref<|eB t1) xp:=⟨λn t0 t1 r h=>.ot Tryz.func192 I Tryz.ntmps192 I λ_ _=>walk h⟩
instance system_alternative_ok:Kd2 152 zaP w9 (slE 1 xt) λr=>.tup [.int r.1,.bool r.2]:=⟨λn t0 t1 r h=>.ot Tryz.func152 I Tryz.ntmps152 I λ_ _=>have:HL 2 [3,9,10] (λv:Int=>[(11,.d<|.int v)]) λ_ _=>[]:=⟨⟩;walk h⟩
instance system_solves_ok:Kd2 91 zeP w9 (slE 1 xt) xp:=⟨λn t0 t1 r h=>.ot Tryz.func91 I Tryz.ntmps91 I λ_ _=>walk h⟩
instance system_Holds_ok:Kd2 36 zfv w9 (slE 1 xt) xp:=⟨λn t0 t1 r h=>.ot Tryz.func36 I Tryz.ntmps36 I λ_ _=>walk h⟩
instance slices_Equal_LStep_api_Step_ok:Kd2 92 zN (slE 3 wA) (slE 3 wA) xp:=⟨λn t0 t1 r h=>.ot Tryz.func92 I Tryz.ntmps92 I λ_ _=>have:HL 4 [0,1,12] (λv:Int=>[(13,.d<|.int v)]) λ_ _=>[]:=⟨⟩;walk h⟩
theorem zb6 (n t0 t1)(t2:Tree->Tree->Option Bool)(F2:D)(hF2:∀(q0:Tree)(q1:Tree)(y:Bool),t2 q0 q1=O y->Dyn pg F2 [xo q0,xo q1] (.bool y))(r)(h:zl n t0 t1 t2=O r):Pure pg 93 [.sl 5<|xn xo t0,.sl 5<|xn xo t1,F2]<|.bool r:=by refine Pure.ot Tryz.func93 I Tryz.ntmps93 I λA w=>.sA 1 I<|.seq<|.S 1 I<|.e I<|.A 1 I<|.e I<|.A 1 I<|.nil<|.zvG I h (λh=>.sA 1 I<|.ret<|rO h I) λh=>.skip<|.seq<|.S 1 I<|.e I<|.A 1 I<|.nil<|.block<|.L [1,2,15,16] h (λv=>[(17,.d<|.int v)]) (λv=>[]) I λ_ x9 h=>.sA 1 I<|.seq<|.zvG I h (λh=>.skip<|.seq<|.block<|.S 1 I<|.X h I λx11 h=>.A 1 I<|.zwB I I I I (.agg Zc40 (ds':=[.int 0,.sl 3<|xn wA [],.int 0,.int 0,.sl 5<|xn xo []])<|.e<|.o<|.e<|.e .o1) I<|.A 1 I<|.eqD 21 I (Tree.zyA _)<|.so I<|.nil<|.S 2 I<|.X h I λx12 h=>.A 1 I<|.aS I<|.nil<|.S 1 I<|.p I (.zxi I I I Y40 (yt I) (v:=.d<|xo x11)<|by rw[Tree.zyA];rfl)<|.A 1 I<|bK h λx13 q13 h=>.p I (.dyn I I I<|hF2 _ _ _ q13)<|.A 1 I<|.nil<|.K [1,2,15,16,17,30] I<|.zvG I h (λh=>.sA 1 I<|.ret<|rO h I) λh=>.skip<|.rA 2 I<|ndE h I) λh=>.exit<|.sA 1 I<|.ret<|rO h I
theorem zhn (n:Nat)(self:Tree->Tree->Option Bool)(hself:∀(t0:Tree)(t1:Tree)(r:Bool),self t0 t1=O r->Pure pg 37 [xo t0,xo t1] (.bool r))(t0:Tree)(t1:Tree)(r:Bool)(h:zaq.body n self t0 t1=O r):Pure pg 37 [xo t0,xo t1]<|.bool r:=by refine Pure.ot Tryz.func37 I Tryz.ntmps37 I λA w=>.sA 3 I<|.seq<|.plain 33 I<|.A 6 I<|.jA 5 (t0.cell==t1.cell) I (λb1=>.A 5 I<|.nil I)<|.A 1 I<|.jA 5 (t0.at_==t1.at_) I (λb2=>.A 5 I<|.nil I)<|.A 1 I<|gK h λc4 h=>.jA 5 ((zN n t0.steps t1.steps).getD J) I (λb3=>.A 4 I<|.q I (.call I (zwe I) I<|slices_Equal_LStep_api_Step_ok _ _ _ _<|zwh<|impT c4 b3)<|.nil I)<|.A 1 I<|gK h λc6 h=>.jA 5 ((zl n t0.kids t1.kids λq0 q1=>self q0 q1).getD J) I (λb5=>.q I (.fa I<|zzL _)<|.A 1 I<|.q I (.fa I<|zzL _)<|.A 1 I<|.q I (.call I (zwe I) I<|zb6 _ _ _ _ _ (λq0 q1 y hq=>⟨_,_,I,K37,hself q0 q1 _ hq⟩) _<|zwh<|impT c6 b5)<|.nil I)<|.nil<|.A 1 I<|.nil<|.K [4] I<|.ret<|rO h I
theorem zft :∀(n:Nat)(t0:Tree)(t1:Tree)(r:Bool)(h:zaq n t0 t1=O r),Pure pg 37 [xo t0,xo t1]<|.bool r|0,t0,t1,r,h=>by cases h|n+1,t0,t1,r,h=>zhn n (zaq n) (zft n) t0 t1 r h
instance refutation_node_ok:Kd1 154 zb3 xo xp:=⟨λn t0 r h=>.ot Tryz.func154 I Tryz.ntmps154 I λ_ _=>have:HTr:=⟨⟩;have:HJ 7 [1,4,7,8,9] (λv:Int=>[(5,.d<|.int v)]) λ_ _=>[]:=⟨⟩;have:HL 2 [1,7,8] (λv:Int=>[(9,.d<|.int v)]) λ_ _=>[]:=⟨⟩;walk h⟩
end
