/- Part of the proof of one law of the seat. -/
import Derived.Test.YtipkniadbkndfaaGreatDoorSm13
set_option linter.all false
set_option maxRecDepth 100000
set_option maxHeartbeats 40000000
namespace Go.Proofs.YtipkniadbkndfaaGreatDoor
open Go Go.RowKit
open List renaming length->xh,map->xn
open D renaming bool->xp,int->xt,str->wL
open Model renaming enc->xR
open Table renaming enc->wm
open _root_.Go.Proofs.YtipkniadbkndfaaGreatDoor.Question renaming enc->wz
section
set_option maxRecDepth 100000
set_option maxHeartbeats 40000000
instance ref09_nth_ok:Kd3 224 zdU (slE 1 xt) (slE 1 xt) xt<|slE 1 xt:=⟨λn t0 t1 t2 r h=>.ot Tryz.func224 I Tryz.ntmps224 I λ_ _=>have:HL 3 [0,1] (λv:List Int×Int×Int=>[(2,.d<|.int v.2.1),(7,.vec 0<|xh v.1),(8,.d<|.int v.2.2)]) λ_ v=>[(0,.vec 3 1<|xn xt v.1)]:=⟨⟩;walk h⟩
instance ref09_Tuple_ok:Kd4 187 zcH (slE 1 xt) (slE 6 wm) xp xt λr=>.tup [.int r.1,eB r.2.1,.bool r.2.2]:=⟨λn t0 t1 t2 t3 r h=>.ot Tryz.func187 I Tryz.ntmps187 I λ_ _=>have:HL 4 [0,1,2,3] (λv:Int=>[(11,.d<|.int v)]) λ_ _=>[]:=⟨⟩;walk h⟩
instance ref13_set_ok:Kd1 188 ziB xt xp:=⟨λn t0 r h=>.ot Tryz.func188 I Tryz.ntmps188 I λ_ _=>walk h⟩
instance ref13_effect_ok:Kd2 147 zac xR zwf.enc xp:=⟨λn t0 t1 r h=>.ot Tryz.func147 I Tryz.ntmps147 I λ_ _=>have:HL 14 [2,3] (λv:Int=>[(9,.d<|.int v)]) λ_ _=>[]:=⟨⟩;have:HL 9 [2,3,5] (λv:Int=>[(8,.d<|.int v)]) λ_ _=>[]:=⟨⟩;have:HL 3 [2,3,5] (λv:Int=>[(6,.d<|.int v)]) λ_ _=>[]:=⟨⟩;walk h⟩
instance ref13_actions_ok:Kd1 87 zC xR xp:=⟨λn t0 r h=>.ot Tryz.func87 I Tryz.ntmps87 I λ_ _=>have:HS 12:=⟨⟩;have:HL 8 [1,3,4,5] (λv:Int=>[(6,.d<|.int v)]) λ_ _=>[]:=⟨⟩;have:HJ 32 [1,7,8] (λv:Unit=>[]) λ_ _=>[]:=⟨⟩;have:HL 23 [1,7,8] (λv:Int=>[(9,.d<|.int v)]) λ_ _=>[]:=⟨⟩;have:HL 17 [1] (λv:Int=>[(7,.d<|.int v)]) λ_ _=>[]:=⟨⟩;have:HL 3 [1] (λv:List (List UInt8)×Int=>[(3,.vec 0<|xh v.1),(4,.d<|.int v.2)]) λ_ v=>[(0,.vec 9 1<|xn wL v.1)]:=⟨⟩;walk h⟩
instance ref13_leads_ok:Kd4 148 zaV xR xt xt xt xp:=.self (λ_ _ _ _=>I) λn _ t0 t1 t2 t3 r h=>.ot Tryz.func148 I Tryz.ntmps148 I λ_ _=>have:HL 4 [1,2,3,4] (λv:Int=>[(9,.d<|.int v)]) λ_ _=>[]:=⟨⟩;walk h
instance ref13_hidden_ok:Kd1 88 zaI xR xp:=⟨λn t0 r h=>.ot Tryz.func88 I Tryz.ntmps88 I λ_ _=>have:HX:=⟨⟩;have:HZ 6 0 [0,1] [5,6]:=⟨⟩;have:HL 13 [1] (λv:Int=>[(7,.d<|.int v)]) λ_ _=>[]:=⟨⟩;have:HL 4 [1] (λv:Int=>[(3,.d<|.int v)]) λ_ _=>[]:=⟨⟩;walk h⟩
instance ref13_Valid_ok:Kd1 35 ze9 xR xp:=⟨λn t0 r h=>.ot Tryz.func35 I Tryz.ntmps35 I λ_ _=>walk h⟩
instance ref16_Valid_ok:Kd2 13 zee xR wz xp:=⟨λn t0 t1 r h=>.ot Tryz.func13 I Tryz.ntmps13 I λ_ _=>walk h⟩
instance ref16_Strict_ok:Kd1 96 zc6 xt xp:=⟨λn t0 r h=>.ot Tryz.func96 I Tryz.ntmps96 I λ_ _=>walk h⟩
instance ref16_Cells_ok:Kd2 97 zbM xR wm xt:=⟨λn t0 t1 r h=>.ot Tryz.func97 I Tryz.ntmps97 I λ_ _=>have:HL 3 [2,3] (λv:Int×Int=>[(5,.d<|.int v.1),(6,.d<|.int v.2)]) λ_ _=>[]:=⟨⟩;walk h⟩
instance ref20_Small_ok:Kd1 22 zef xt xp:=⟨λn t0 r h=>.ot Tryz.func22 I Tryz.ntmps22 I λ_ _=>walk h⟩
end
