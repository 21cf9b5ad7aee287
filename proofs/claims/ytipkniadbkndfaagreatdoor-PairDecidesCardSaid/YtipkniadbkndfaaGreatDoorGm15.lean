/- Part of the proof of one law of the seat. -/
import Derived.Test.YtipkniadbkndfaaGreatDoorGm14
set_option linter.all false
set_option maxRecDepth 100000
set_option maxHeartbeats 40000000
namespace Go.Proofs.YtipkniadbkndfaaGreatDoor
open Go Go.RowKit
open List renaming length->xh,map->xj
open D renaming bool->xn,int->xq,str->wG
open Range renaming enc->xp
open _root_.Go.Proofs.YtipkniadbkndfaaGreatDoor.Row renaming enc->xF
open Model renaming enc->wa
open Constraint renaming enc->wc
open Table renaming enc->wl
open System renaming enc->wB
open _root_.Go.Proofs.YtipkniadbkndfaaGreatDoor.Question renaming enc->wD
open Term renaming enc->wJ
section
set_option maxRecDepth 100000
set_option maxHeartbeats 40000000
instance ref09_nth_ok:Kd3 224 zdz (slE 1 xq) (slE 1 xq) xq (slE 1 xq):=⟨λn t0 t1 t2 r h=>.ot Tryz.func224 I Tryz.ntmps224 I λ_ _=>have:HL 3 [0,1] (λv:List Int×Int×Int=>[(2,.d (.int v.2.1)),(7,.vec 0 (xh v.1)),(8,.d (.int v.2.2))]) λ_ v=>[(0,.vec 3 1 (xj xq v.1))]:=⟨⟩;walk h⟩
instance ref09_Tuple_ok:Kd4 187 zcx (slE 1 xq) (slE 6 wl) xn xq λr=>.tup [.int r.1,eB r.2.1,.bool r.2.2]:=⟨λn t0 t1 t2 t3 r h=>.ot Tryz.func187 I Tryz.ntmps187 I λ_ _=>have:HL 4 [0,1,2,3] (λv:Int=>[(11,.d (.int v))]) λ_ _=>[]:=⟨⟩;walk h⟩
instance ref13_set_ok:Kd1 188 zh1 xq xn:=⟨λn t0 r h=>.ot Tryz.func188 I Tryz.ntmps188 I λ_ _=>walk h⟩
instance ref13_effect_ok:Kd2 147 zaa wa ztE.enc xn:=⟨λn t0 t1 r h=>.ot Tryz.func147 I Tryz.ntmps147 I λ_ _=>have:HL 14 [2,3] (λv:Int=>[(9,.d (.int v))]) λ_ _=>[]:=⟨⟩;have:HL 9 [2,3,5] (λv:Int=>[(8,.d (.int v))]) λ_ _=>[]:=⟨⟩;have:HL 3 [2,3,5] (λv:Int=>[(6,.d (.int v))]) λ_ _=>[]:=⟨⟩;walk h⟩
instance ref13_actions_ok:Kd1 87 zB wa xn:=⟨λn t0 r h=>.ot Tryz.func87 I Tryz.ntmps87 I λ_ _=>have:HS 12:=⟨⟩;have:HL 8 [1,3,4,5] (λv:Int=>[(6,.d (.int v))]) λ_ _=>[]:=⟨⟩;have:HJ 32 [1,7,8] (λv:Unit=>[]) λ_ _=>[]:=⟨⟩;have:HL 23 [1,7,8] (λv:Int=>[(9,.d (.int v))]) λ_ _=>[]:=⟨⟩;have:HL 17 [1] (λv:Int=>[(7,.d (.int v))]) λ_ _=>[]:=⟨⟩;have:HL 3 [1] (λv:List (List UInt8)×Int=>[(3,.vec 0 (xh v.1)),(4,.d (.int v.2))]) λ_ v=>[(0,.vec 9 1 (xj wG v.1))]:=⟨⟩;walk h⟩
instance ref13_leads_ok:Kd4 148 zaL wa xq xq xq xn:=.self (λ_ _ _ _=>I) λn _ t0 t1 t2 t3 r h=>.ot Tryz.func148 I Tryz.ntmps148 I λ_ _=>have:HL 4 [1,2,3,4] (λv:Int=>[(9,.d (.int v))]) λ_ _=>[]:=⟨⟩;walk h
instance ref13_hidden_ok:Kd1 88 zaB wa xn:=⟨λn t0 r h=>.ot Tryz.func88 I Tryz.ntmps88 I λ_ _=>have:HX:=⟨⟩;have:HZ 6 0 [0,1] [5,6]:=⟨⟩;have:HL 13 [1] (λv:Int=>[(7,.d (.int v))]) λ_ _=>[]:=⟨⟩;have:HL 4 [1] (λv:Int=>[(3,.d (.int v))]) λ_ _=>[]:=⟨⟩;walk h⟩
instance ref13_Valid_ok:Kd1 35 zfP wa xn:=⟨λn t0 r h=>.ot Tryz.func35 I Tryz.ntmps35 I λ_ _=>walk h⟩
instance ref16_Valid_ok:Kd2 13 zfQ wa wD xn:=⟨λn t0 t1 r h=>.ot Tryz.func13 I Tryz.ntmps13 I λ_ _=>walk h⟩
instance ref16_Strict_ok:Kd1 96 zeV xq xn:=⟨λn t0 r h=>.ot Tryz.func96 I Tryz.ntmps96 I λ_ _=>walk h⟩
instance ref16_Cells_ok:Kd2 97 zb9 wa wl xq:=⟨λn t0 t1 r h=>.ot Tryz.func97 I Tryz.ntmps97 I λ_ _=>have:HL 3 [2,3] (λv:Int×Int=>[(5,.d (.int v.1)),(6,.d (.int v.2))]) λ_ _=>[]:=⟨⟩;walk h⟩
instance ref22_Box_ok:Kd1 39 zb2 wa (slE 2 xp):=⟨λn t0 r h=>.ot Tryz.func39 I Tryz.ntmps39 I λ_ _=>have:HS 6:=⟨⟩;have:HL 7 [1,4] (λv:List Range×Int=>[(3,.vec 0 (xh v.1)),(5,.d (.int v.2))]) λ_ v=>[(0,.vec 83 2 (xj xp v.1))]:=⟨⟩;have:HJ 4 [1,4] (λv:List Range=>[(3,.vec 0 (xh v))]) λ_ v=>[(0,.vec 83 2 (xj xp v))]:=⟨⟩;have:HL 3 [1] (λv:List Range×Int=>[(3,.vec 0 (xh v.1)),(4,.d (.int v.2))]) λ_ v=>[(0,.vec 83 2 (xj xp v.1))]:=⟨⟩;walk h⟩
instance ref22_Add_ok:Kd2 133 zaU ztE.enc xq xq:=⟨λn t0 t1 r h=>.ot Tryz.func133 I Tryz.ntmps133 I λ_ _=>have:HJ 4 [1,2,6] (λv:Int=>[(5,.d (.int v))]) λ_ _=>[]:=⟨⟩;have:HL 3 [1,2] (λv:Int×Int=>[(5,.d (.int v.1)),(6,.d (.int v.2))]) λ_ _=>[]:=⟨⟩;walk h⟩
instance ref22_Sum_ok:Kd2 74 zbj ztE.enc xF xq:=⟨λn t0 t1 r h=>.ot Tryz.func74 I Tryz.ntmps74 I λ_ _=>have:HL 3 [2,3] (λv:Int×Int=>[(5,.d (.int v.1)),(6,.d (.int v.2))]) λ_ _=>[]:=⟨⟩;walk h⟩
instance ref22_has_ok:Kd2 75 zgx (slE 1 xq) xq xn:=⟨λn t0 t1 r h=>.ot Tryz.func75 I Tryz.ntmps75 I λ_ _=>have:HL 2 [0,1] (λv:Int=>[(5,.d (.int v))]) λ_ _=>[]:=⟨⟩;walk h⟩
instance ref18_Copy_ok:Kd1 76 zco xF xF:=⟨λn t0 r h=>.ot Tryz.func76 I Tryz.ntmps76 I λ_ _=>have:HX:=⟨⟩;have:HN 7 [0]:=⟨⟩;have:HB 3 [0]:=⟨⟩;have:HC 0 1 0 2 109:=⟨⟩;have:HL 3 [1,2,3] (λv:List Term×Int=>[(4,.d (.int v.2))]) λH v=>[bx 1 [(0,.vec 3 (xh v.1))] H,(3,.vec 109 2 (xj wJ v.1))]:=⟨⟩;walk h⟩
instance ref22_graph_ok:Kd2 77 zbm wc ztE.enc ztv.enc:=⟨λn t0 t1 r h=>.ot Tryz.func77 I Tryz.ntmps77 I λ_ _=>have:HX:=⟨⟩;have:HN 11 [2]:=⟨⟩;have:HB 5 [2]:=⟨⟩;have:HC 0 1 2 1 3:=⟨⟩;have:HL 3 [2,3,4,5] (λv:List Int×Int=>[(6,.d (.int v.2))]) λH v=>[bx 1 [(2,.vec 3 (xh v.1))] H,(3,.vec 3 1 (xj xq v.1))]:=⟨⟩;walk h⟩
instance ref22_raises_ok:Kd2 78 zbw ztE.enc wc xn:=⟨λn t0 t1 r h=>.ot Tryz.func78 I Tryz.ntmps78 I λ_ _=>have:HL 2 [2,3] (λv:Int=>[(5,.d (.int v))]) λ_ _=>[]:=⟨⟩;walk h⟩
instance ref22_negated_ok:Kd2 79 za3 xF xq xF:=⟨λn t0 t1 r h=>.ot Tryz.func79 I Tryz.ntmps79 I λ_ _=>have:HX:=⟨⟩;have:HN 8 [0]:=⟨⟩;have:HB 5 [0]:=⟨⟩;have:HC 0 1 0 2 109:=⟨⟩;have:HL 3 [2,4,5] (λv:List Term×Int=>[(6,.d (.int v.2))]) λH v=>[bx 1 [(0,.vec 3 (xh v.1))] H,(3,.vec 109 2 (xj wJ v.1))]:=⟨⟩;walk h⟩
instance ref19_Valid_ok:Kd2 180 zdk xq (slE 1 xn) xn:=⟨λn t0 t1 r h=>.ot Tryz.func180 I Tryz.ntmps180 I λ_ _=>walk h⟩
instance ref19_has_ok:Kd2 181 zcB (slE 1 xq) xq xn:=⟨λn t0 t1 r h=>.ot Tryz.func181 I Tryz.ntmps181 I λ_ _=>have:HL 2 [0,1] (λv:Int=>[(5,.d (.int v))]) λ_ _=>[]:=⟨⟩;walk h⟩
instance ref19_with_ok:Kd2 182 zcE (slE 1 xq) xq (slE 1 xq):=⟨λn t0 t1 r h=>.ot Tryz.func182 I Tryz.ntmps182 I λ_ _=>have:HS 7:=⟨⟩;have:HL 3 [0,1] (λv:List Int×Int=>[(5,.vec 0 (xh v.1)),(6,.d (.int v.2))]) λ_ v=>[(0,.vec 3 1 (xj xq v.1))]:=⟨⟩;walk h⟩
instance ref19_Cycles_ok:Kd2 134 zH xq (slE 1 xn) λr=>eJ r:=⟨λn t0 t1 r h=>.ot Tryz.func134 I Tryz.ntmps134 I λ_ _=>have:HX:=⟨⟩;have:HF 10 [1] [6]:=⟨⟩;have:HZ 6 0 [2] [6]:=⟨⟩;have:HS 36:=⟨⟩;have:HS 20:=⟨⟩;have:HS 14:=⟨⟩;have:HJ 22 [0,1,5,6,8,10,12,13] (λv:List (List Int)=>[(9,.vec 2 (xh v))]) λ_ v=>[(2,.vec 22 1 (xj eB v))]:=⟨⟩;have:HL 21 [0,1,5,6,8,10,12] (λv:List (List Int)×Int=>[(9,.vec 2 (xh v.1)),(13,.d (.int v.2))]) λ_ v=>[(2,.vec 22 1 (xj eB v.1))]:=⟨⟩;have:HJ 20 [0,1,6,8,9,10,11,12] (λv:List (List Int)=>[(5,.vec 0 (xh v))]) λ_ v=>[(0,.vec 22 1 (xj eB v))]:=⟨⟩;have:HL 14 [0,1,6,8] (λv:List (List Int)×List (List Int)×Int=>[(5,.vec 0 (xh v.1)),(9,.vec 2 (xh v.2.1)),(10,.d (.int v.2.2))]) λ_ v=>[(0,.vec 22 1 (xj eB v.1)),(2,.vec 22 1 (xj eB v.2.1))]:=⟨⟩;have:HL 10 [0,1] (λv:List (List Int)×List (List Int)×Int=>[(5,.vec 0 (xh v.1)),(6,.d (eJ v.2.1)),(8,.d (.int v.2.2))]) λ_ v=>[(0,.vec 22 1 (xj eB v.1))]:=⟨⟩;have:HL 6 [0,1,5] (λv:List (List Int)×Int=>[(6,.vec 1 (xh v.1)),(7,.d (.int v.2))]) λ_ v=>[(1,.vec 22 1 (xj eB v.1))]:=⟨⟩;walk h⟩
instance ref22_cases_ok:Kd4 80 zah (slE 2 xp) wc ztE.enc ztE.enc λr=>eN r:=⟨λn t0 t1 t2 t3 r h=>.ot Tryz.func80 I Tryz.ntmps80 I λ_ _=>have:HX:=⟨⟩;have:HF 6 [0] [9]:=⟨⟩;have:HF 23 [2] [14]:=⟨⟩;have:HS 67:=⟨⟩;have:HS 60:=⟨⟩;have:HS 20:=⟨⟩;have:HL 15 [5,6,7,11,12,13] (λv:List Row×Bool×Bool×Int=>[(14,.vec 2 (xh v.1)),(15,.d (.bool v.2.1)),(16,.d (.bool v.2.2.1)),(17,.d (.int v.2.2.2))]) λ_ v=>[(2,.vec 55 2 (xj xF v.1))]:=⟨⟩;have:HJ 10 [5,6,7,11,13] (λv:List (List Row)=>[(12,.vec 1 (xh v))]) λ_ v=>[(1,.vec 74 1 (xj eL v))]:=⟨⟩;have:HL 9 [5,6,7,11] (λv:List (List Row)×Int=>[(12,.vec 1 (xh v.1)),(13,.d (.int v.2))]) λ_ v=>[(1,.vec 74 1 (xj eL v.1))]:=⟨⟩;have:HL 3 [0,5,6,7] (λv:List Bool×Int=>[(9,.vec 0 (xh v.1)),(10,.d (.int v.2))]) λ_ v=>[(0,.vec 4 1 (xj xn v.1))]:=⟨⟩;walk h⟩
instance ref17_inside_ok:Kd3 158 za7 xq xq xq xn:=⟨λn t0 t1 t2 r h=>.ot Tryz.func158 I Tryz.ntmps158 I λ_ _=>walk h⟩
instance ref17_Row_ok:Kd2 159 zb1 xF xq xn:=⟨λn t0 t1 r h=>.ot Tryz.func159 I Tryz.ntmps159 I λ_ _=>have:HL 3 [1,2] (λv:Int×Int=>[(5,.d (.int v.1)),(6,.d (.int v.2))]) λ_ _=>[]:=⟨⟩;walk h⟩
instance ref17_Valid_ok:Kd2 102 zT (slE 2 xp) (slE 2 xF) xn:=⟨λn t0 t1 r h=>.ot Tryz.func102 I Tryz.ntmps102 I λ_ _=>have:HL 9 [0,1] (λv:Int=>[(6,.d (.int v))]) λ_ _=>[]:=⟨⟩;have:HL 4 [0,1] (λv:Int=>[(5,.d (.int v))]) λ_ _=>[]:=⟨⟩;walk h⟩
instance ref17_Empty_ok:Kd1 135 zca (slE 2 xp) xn:=⟨λn t0 r h=>.ot Tryz.func135 I Tryz.ntmps135 I λ_ _=>have:HL 2 [0] (λv:Int=>[(3,.d (.int v))]) λ_ _=>[]:=⟨⟩;walk h⟩
instance ref18_Valid_ok:Kd1 81 z9 wB xn:=⟨λn t0 r h=>.ot Tryz.func81 I Tryz.ntmps81 I λ_ _=>have:HL 15 [1,4,5] (λv:Int=>[(6,.d (.int v))]) λ_ _=>[]:=⟨⟩;have:HL 9 [1] (λv:Int=>[(4,.d (.int v))]) λ_ _=>[]:=⟨⟩;have:HL 4 [1] (λv:Int=>[(3,.d (.int v))]) λ_ _=>[]:=⟨⟩;walk h⟩
instance ref22_System_ok:Kd3 31 zp wa wD (slE 1 xq) λr=>.tup [wB r.1,.int r.2]:=⟨λn t0 t1 t2 r h=>.ot Tryz.func31 I Tryz.ntmps31 I λ_ _=>have:HX:=⟨⟩;have:HN 79 [1,2]:=⟨⟩;have:HB 11 [1,2]:=⟨⟩;have:HC 0 1 1 2 55:=⟨⟩;have:HC 1 1 2 3 124:=⟨⟩;have:HA 17:=⟨⟩;have:HJ 21 [2,3,4,6,9,10,11,12,13] (λv:Int=>[(16,.d (.int v))]) λ_ _=>[]:=⟨⟩;have:HJ 13 [2,3,4,6,9,10,11,12] (λv:List Row=>[]) λH v=>[bx 1 [(1,.vec 4 (xh v))] H,(4,.vec 55 2 (xj xF v))]:=⟨⟩;have:HJ 40 [3,4,6,9,10,11,20,21] (λv:List ztv=>[]) λH v=>[bx 1 [(2,.vec 5 (xh v))] H,(5,.vec 124 3 (xj ztv.enc v))]:=⟨⟩;have:HJ 34 [3,4,6,9,10,11,20] (λv:List ztv=>[]) λH v=>[bx 1 [(2,.vec 5 (xh v))] H,(5,.vec 124 3 (xj ztv.enc v))]:=⟨⟩;have:HJ 51 [6,11] (λv:List Row×List (List Row)=>[]) λH v=>[bx 1 [(1,.vec 4 (xh v.1)),(3,.d (eN v.2))] H,(4,.vec 55 2 (xj xF v.1))]:=⟨⟩;have:HL 33 [3,4,6,9,10,11] (λv:List ztv×Int=>[(20,.d (.int v.2))]) λH v=>[bx 1 [(2,.vec 5 (xh v.1))] H,(5,.vec 124 3 (xj ztv.enc v.1))]:=⟨⟩;have:HL 29 [3,4,6,9,10,11] (λv:List Row×Int=>[(19,.d (.int v.2))]) λH v=>[bx 1 [(1,.vec 4 (xh v.1))] H,(4,.vec 55 2 (xj xF v.1))]:=⟨⟩;have:HL 25 [3,4,6,9,10,11] (λv:List Row×Int=>[(18,.d (.int v.2))]) λH v=>[bx 1 [(1,.vec 4 (xh v.1))] H,(4,.vec 55 2 (xj xF v.1))]:=⟨⟩;have:HL 12 [2,3,4,6,9,10,11] (λv:List Row×Int=>[(12,.d (.int v.2))]) λH v=>[bx 1 [(1,.vec 4 (xh v.1))] H,(4,.vec 55 2 (xj xF v.1))]:=⟨⟩;have:HL 4 [2,3,4,6] (λv:Int=>[(8,.d (.int v))]) λ_ _=>[]:=⟨⟩;walk h⟩
instance ref20_Small_ok:Kd1 22 zdl xq xn:=⟨λn t0 r h=>.ot Tryz.func22 I Tryz.ntmps22 I λ_ _=>walk h⟩
instance ref17_With_ok:Kd3 138 zbI (slE 2 xp) xq xp (slE 2 xp):=⟨λn t0 t1 t2 r h=>.ot Tryz.func138 I Tryz.ntmps138 I λ_ _=>have:HS 9:=⟨⟩;have:HJ 4 [0,1,5,8] (λv:List Range=>[(7,.vec 0 (xh v))]) λ_ v=>[(0,.vec 83 2 (xj xp v))]:=⟨⟩;have:HL 3 [0,1,5] (λv:List Range×Int=>[(7,.vec 0 (xh v.1)),(8,.d (.int v.2))]) λ_ v=>[(0,.vec 83 2 (xj xp v.1))]:=⟨⟩;walk h⟩
end
