/- Part of the proof of one law of the seat. -/
import Derived.Test.YtipkniadbkndfaaGreatDoorSm10a
set_option linter.all false
set_option maxRecDepth 100000
set_option maxHeartbeats 40000000
namespace Go.Proofs.YtipkniadbkndfaaGreatDoor
open Go Go.RowKit
open Option renaming some->O
open Bool renaming false->M
open Inhabited renaming default->J
open List renaming length->xh,map->xn
open D renaming bool->xp,int->xt
open Range renaming enc->xy
open _root_.Go.Proofs.YtipkniadbkndfaaGreatDoor.Row renaming enc->xM
open Term renaming enc->wQ
section
set_option maxRecDepth 100000
set_option maxHeartbeats 40000000
instance interval_tighten_1_ok:Kd2 266 zcd wQ (λt1=>.ref<|.int t1) xp:=⟨λn t0 t1 r h=>.ot Tryz.func266 I Tryz.ntmps266 I λ_ _=>walk h⟩
instance slices_IndexFunc_LTerm_api_Term_ok:Kf2 265 zG (slE 2 wQ) wQ xp xt:=⟨λn t0 t1 F hF r h=>.ot Tryz.func265 I Tryz.ntmps265 I λ_ _=>have:HL 2 [0,1,7] (λv:Int=>[(8,.d<|.int v)]) λ_ _=>[]:=⟨⟩;walk h⟩
instance interval_bound_ok:Kd4 267 zby xM (slE 2 xy) xt xt xt:=⟨λn t0 t1 t2 t3 r h=>.ot Tryz.func267 I Tryz.ntmps267 I λ_ _=>have:HJ 10 [1,2,3,14,15,16] (λv:Int=>[(9,.d<|.int v)]) λ_ _=>[]:=⟨⟩;have:HL 3 [1,2,3,14,15] (λv:Int×Int=>[(9,.d<|.int v.1),(16,.d<|.int v.2)]) λ_ _=>[]:=⟨⟩;walk h⟩
instance interval_floor_ok:Kd2 179 zcL xt xt xt:=⟨λn t0 t1 r h=>.ot Tryz.func179 I Tryz.ntmps179 I λ_ _=>have:HJ 4 [] (λv:Int=>[(5,.d<|.int v)]) λ_ _=>[]:=⟨⟩;walk h⟩
instance interval_tighten_ok:Kd3 230 zdr xM (slE 2 xy) xt xy:=⟨λn t0 t1 t2 r h=>.ot Tryz.func230 I Tryz.ntmps230 I λ_ _=>have:HA 7:=⟨⟩;have:HJ 9 [6,7] (λv:Int×Int=>[]) λH v=>[bx 1 [(0,.d<|.int v.1),(1,.d<|.int v.2)] H]:=⟨⟩;walk h⟩
instance interval_Tighten_ok:Kd3 196 zcJ xM (slE 2 xy) xt xy:=⟨λn t0 t1 t2 r h=>.ot Tryz.func196 I Tryz.ntmps196 I λ_ _=>walk h⟩
theorem zgE (n t0 t1 t2 r)(h:zO n t0 t1 t2=O r):Pure pg 264 [zwR.enc t0,.int t1,.int t2]<|eB r:=by
 have:HS 60:=⟨⟩;have:HJ 16 [2,3,9,10,40,41] (λv:List Bool×List (List Int)×Nat=>[(7,.vec 0<|xh v.1),(8,.que 1 v.2.2)]) λ_ v=>[(0,.vec 4 1<|xn xp v.1),(1,.que v.2.2 22 1<|xn eB v.2.1)]:=⟨⟩;have:HL 11 [2,3,9,10,40] (λv:List Bool×List (List Int)×Nat×Int=>[(7,.vec 0<|xh v.1),(8,.que 1 v.2.2.1),(41,.d<|.int v.2.2.2)]) λ_ v=>[(0,.vec 4 1<|xn xp v.1),(1,.que v.2.2.1 22 1<|xn eB v.2.1)]:=⟨⟩;have:HL 4 [2,3] (λv:List Bool×List (List Int)×Nat=>[(7,.vec 0<|xh v.1),(8,.que 1 v.2.2)]) λ_ v=>[(0,.vec 4 1<|xn xp v.1),(1,.que v.2.2 22 1<|xn eB v.2.1)]:=⟨⟩;refine Pure.ot Tryz.func264 I Tryz.ntmps264 I λA w=>.S 1 I<|.p I (.nilS 1 (α:=Int) xt I)<|.nil<|.S 2 I<|bK h λx1 q1 h=>.zxX (enc:=xp) (z:=(M:Bool)) I I I I E173 I I I (.val Zv4) q1<|.A 1 I<|.nil<|.S 2 I<|bK h λx2 q2 h=>.p I (.idxV I I I I I U173 S4 q2)<|bK h λb0_3 hb0_3 h=>.zwQ (enc:=xp) I I I I I I I I I C4 hb0_3<|.zxj 7 I (zcp hb0_3)<|.zxj 14 I (zcp hb0_3)<|.zxj 15 I (zcp hb0_3)<|.nil<|.seq<|.S 1 I<|.p I (.zwo [_] I I E22 I (λ_=>I) I (enc:=xt))<|.buildQue [_] I I I I I E51 I (λ_=>I) I (enc:=eB)<|.A 1 I<|.nil<|.block<|.L [2,3] h (λv=>[(7,.vec 0<|xh v.1),(8,.que 1 v.2.2)]) (λv=>[(0,.vec 4 1<|xn xp v.1),(1,.que v.2.2 22 1<|xn eB v.2.1)]) I λ_⟨b0_114,b1_115,m1_116⟩h=>.seq<|.S 1 I<|.p I (.lenQL I U51 I I)<|.A 1 I<|.nil<|.K [2,3,7,8,23] I<|.zvG I h (λh=>?_) λh=>?_
 ·refine .skip<|.seq<|.block<|.S 1 I<|bK h λx118 q118 h=>.p I (.idxQ I I I I U51 S22 q118)<|.p I (.loadQ I I I q118 Y22 I)<|.A 1 I<|.nil<|.S 2 I<|.e I<|.A 1 I<|.X h I λx119 h=>.A 2 I<|.nil<|.seq<|.sA 3 I<|.zvG I h (λh=>?_) λh=>?_;·exact walk h
  ·refine .skip<|.sA 3 I<|.K [2,3,7,8,9,10,40,41] I<|.block<|.L [2,3,9,10,40] h (λv=>[(7,.vec 0<|xh v.1),(8,.que 1 v.2.2.1),(41,.d<|.int v.2.2.2)]) (λv=>[(0,.vec 4 1<|xn xp v.1),(1,.que v.2.2.1 22 1<|xn eB v.2.1)]) I λ_⟨b0_152,b1_153,m1_154,x155⟩h=>.sA 1 I<|.K [2,3,7,8,9,10,40,41,42] I<|.seq<|.zvG I h (λh=>?_) λh=>?_
   ·refine .skip<|.xf [2,3,9,10,40,41] h (λv=>[(7,.vec 0<|xh v.1),(8,.que 1 v.2.2)]) (λv=>[(0,.vec 4 1<|xn xp v.1),(1,.que v.2.2 22 1<|xn eB v.2.1)]) I (λk_160 h=>?_) λv h=>?_
    ·refine .block<|.sA 2 I<|.seq<|.plain 11 I<|.A 3 I<|.xc h I (digraph_graph_has_ok _ _ _ _) λx161 h=>.A 1 I<|gK h λc163 h=>.jA 5 (!(idx b0_152 x155).getD J) I (λb162=>?_) ?_;·refine .A 2 I<|.q I (.idxV I I I I I U173 S4<|zwh<|impT c163 b162)<|.q I (.loadEl I I I I (zwh<|impT c163 b162) Y4 I)<|.A 1 I<|.nil I
     refine .nil<|.nil<|.zvG I h (λh=>?_) λh=>?_;·refine .S 2 I<|bK h λx164 q164 h=>.p I (.idxV I I I I I U173 S4 q164)<|bK h λb0_165 hb0_165 h=>.zwQ (enc:=xp) I I I I I I I I I C4 hb0_165<|.zxj 7 I (zcp hb0_165)<|.zxj 55 I (zcp hb0_165)<|.nil<|.K [2,3,7,8,9,10,11,40,41] I<|.region<|.A 2 I<|bK h λx166 q166 h=>.clone (enc:=xt) I I I I (zwe I) Tryz.func163 I I I I E22 I (λ_=>I) (λ_=>I) q166 I I<|.A 1 I<|.p I (.zwo [_] I I E22 I (λ_=>I) I (enc:=xt))<|bK h λx167 q167 h=>.app I I I I I I I I E22 I (λ_=>I) q167<|.zv9 [2] (.cons (t:=63) I (.vec (zw9 I) I<|by simp) .nil)<|.p I (.zwo [_] I I E51 I (λ_=>I) I (enc:=eB))<|bK h λx168 q168 h=>.queApp (enc:=eB) I I I I I I I E51 I (λ_=>I) (by simp) q168<|.A 1 I<|.nil<|ndE h I
     exact walk h
    exact walk h
   ·refine .exit<|.region<|.A 1 I<|bK h λx169 q169 h=>.queTail (enc:=eB) I I I I I I I U51 S22 q169<|.A 1 I<|.nil<|ndE h I
 exact walk h
instance digraph_graph_path_i:Kd3 264 zO zwR.enc xt xt<|slE 1 xt:=⟨λn t0 t1 t2 r h=>zgE n t0 t1 t2 r h⟩
instance digraph_Path_ok:Kd4 229 zep xt (slE 1 xp) xt xt<|slE 1 xt:=⟨λn t0 t1 t2 t3 r h=>.ot Tryz.func229 I Tryz.ntmps229 I λ_ _=>walk h⟩
instance search_closes_ok:Kd3 219 zbA zvP.enc (slE 2 xy) xt xp:=⟨λn t0 t1 t2 r h=>.ot Tryz.func219 I Tryz.ntmps219 I λ_ _=>have:HX:=⟨⟩;have:HF 7 [0] [7]:=⟨⟩;have:HL 3 [1,2,3,15,16] (λv:List Bool×Int=>[(7,.vec 0<|xh v.1),(17,.d<|.int v.2)]) λ_ v=>[(0,.vec 4 1<|xn xp v.1)]:=⟨⟩;walk h⟩
theorem zeE (n t0 r)(h:zg n t0=O r):Pure pg 129 [eN t0]<|eL r:=by
 have:HL 11 [25,26] (λv:List Row×Int=>[(6,.vec 0<|xh v.1),(27,.d<|.int v.2)]) λ_ v=>[(0,.vec 55 2<|xn xM v.1)]:=⟨⟩;have:HL 3 [0,9,10] (λv:Int×Int=>[(3,.d<|.int v.1),(11,.d<|.int v.2)]) λ_ _=>[]:=⟨⟩;refine Pure.ot Tryz.func129 I Tryz.ntmps129 I λA w=>.sr<|.p I (.nilS 2 (α:=Row) xM I)<|.nil<|.sA 1 I<|.seq<|.S 1 I<|.e I<|.A 1 I<|.nil<|.block<|.L [0,9,10] h (λv=>[(3,.d<|.int v.1),(11,.d<|.int v.2)]) (λv=>[]) I λ_⟨x7,x8⟩h=>.sA 1 I<|.seq<|.zvG I h (λh=>?_) λh=>?_;·exact walk h
 ·refine .exit<|.S 1 I<|gK h λhg_11 h=>.growNil (α:=Row) (enc:=xM) I I I I (zwe I) I (zsM Tryz.grow178 I I E74 I (of_decide_eq_true hg_11).1 (of_decide_eq_true hg_11).2)<|.A 1 I<|.nil<|.seq<|.S 1 I<|.e I<|.A 1 I<|.nil<|.block<|.L [25,26] h (λv=>[(6,.vec 0<|xh v.1),(27,.d<|.int v.2)]) (λv=>[(0,.vec 55 2<|xn xM v.1)]) I λ_⟨b0_20,x21⟩h=>.sA 1 I<|.K [6,25,26,27,28] I<|.seq<|.zvG I h (λh=>?_) λh=>?_;·exact walk h
  exact walk h
instance slices_Concat_LRow_api_Row_i:Kd1 129 zg (λt0=>eN t0)<|slE 2 xM:=⟨λn t0 r h=>zeE n t0 r h⟩
instance search_work_node_2_ok:Kd1 131 zbG xy xp:=⟨λn t0 r h=>.ot Tryz.func131 I Tryz.ntmps131 I λ_ _=>walk h⟩
instance interval_Middle_ok:Kd1 132 zcZ xy xt:=⟨λn t0 r h=>.ot Tryz.func132 I Tryz.ntmps132 I λ_ _=>walk h⟩
end
