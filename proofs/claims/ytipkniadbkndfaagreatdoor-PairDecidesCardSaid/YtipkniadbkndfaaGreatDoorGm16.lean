/- Part of the proof of one law of the seat. -/
import Derived.Test.YtipkniadbkndfaaGreatDoorGm12z
import Derived.Test.YtipkniadbkndfaaGreatDoorGm15
set_option linter.all false
set_option maxRecDepth 100000
set_option maxHeartbeats 40000000
namespace Go.Proofs.YtipkniadbkndfaaGreatDoor
open Go Go.RowKit
open List renaming length->xh,map->xj
open D renaming bool->xn,int->xq
open Tree renaming enc->xo
open Range renaming enc->xp
open _root_.Go.Proofs.YtipkniadbkndfaaGreatDoor.Row renaming enc->xF
open Model renaming enc->wa
open Step renaming enc->wg
open System renaming enc->wB
open _root_.Go.Proofs.YtipkniadbkndfaaGreatDoor.Question renaming enc->wD
open Term renaming enc->wJ
open Answer renaming enc->wO
open ztM renaming enc->vJ
section
set_option maxRecDepth 100000
set_option maxHeartbeats 40000000
abbrev wE8 a:=(.vec 149 3 (xj wg a):Blk)
instance ref17_End_ok:Kd3 259 zkv wJ xp xn xq:=⟨λn t0 t1 t2 r h=>.ot Tryz.func259 I Tryz.ntmps259 I λ_ _=>walk h⟩
instance ref17_Down_ok:Kd2 184 zeo xq xq xq:=⟨λn t0 t1 r h=>.ot Tryz.func184 I Tryz.ntmps184 I λ_ _=>walk h⟩
instance ref17_Tighten_ok:Kd3 221 zbq xF (slE 2 xp) xq xp:=⟨λn t0 t1 t2 r h=>.ot Tryz.func221 I Tryz.ntmps221 I λ_ _=>have:HA 7:=⟨⟩;have:HJ 8 [1,2,3,6,7,10] (λv:Int×Int=>[(8,.d (.int v.1)),(9,.d (.int v.2))]) λ_ _=>[]:=⟨⟩;have:HJ 17 [6,7,9] (λv:Int=>[]) λH v=>[bx 1 [(0,.d (.int v))] H]:=⟨⟩;have:HJ 15 [6,7,8,9] (λv:Int=>[]) λH v=>[bx 1 [(1,.d (.int v))] H]:=⟨⟩;have:HL 7 [1,2,3,6,7] (λv:Int×Int×Int=>[(8,.d (.int v.1)),(9,.d (.int v.2.1)),(10,.d (.int v.2.2))]) λ_ _=>[]:=⟨⟩;walk h⟩
instance ref20_Present_ok:Kd2 261 zbf ztv.enc (slE 2 xp) (slE 1 xn):=⟨λn t0 t1 r h=>.ot Tryz.func261 I Tryz.ntmps261 I λ_ _=>have:HS 7:=⟨⟩;have:HL 3 [1,2] (λv:List Bool×Int=>[(5,.vec 0 (xh v.1)),(6,.d (.int v.2))]) λ_ v=>[(0,.vec 4 1 (xj xn v.1))]:=⟨⟩;walk h⟩
instance ref19_Path_ok:Kd4 260 zaw xq (slE 1 xn) xq xq (slE 1 xq):=⟨λn t0 t1 t2 t3 r h=>.ot Tryz.func260 I Tryz.ntmps260 I λ_ _=>have:HX:=⟨⟩;have:HZ 9 0 [0] [9]:=⟨⟩;have:HS 45:=⟨⟩;have:HJ 16 [0,1,3,9,10,12,13,14] (λv:List (List Int)=>[(11,.vec 0 (xh v))]) λ_ v=>[(0,.vec 22 1 (xj eB v))]:=⟨⟩;have:HL 15 [0,1,3,9,10,12,13] (λv:List (List Int)×Int=>[(11,.vec 0 (xh v.1)),(14,.d (.int v.2))]) λ_ v=>[(0,.vec 22 1 (xj eB v.1))]:=⟨⟩;have:HL 9 [0,1,3,9,10] (λv:List (List Int)×Int=>[(11,.vec 0 (xh v.1)),(12,.d (.int v.2))]) λ_ v=>[(0,.vec 22 1 (xj eB v.1))]:=⟨⟩;have:HL 5 [0,1,3] (λv:List (List Int)×Int=>[(9,.d (eJ v.1)),(10,.d (.int v.2))]) λ_ _=>[]:=⟨⟩;walk h⟩
instance ref20_Cut_ok:Kd3 222 zh3 ztv.enc (slE 2 xp) xq xp:=⟨λn t0 t1 t2 r h=>.ot Tryz.func222 I Tryz.ntmps222 I λ_ _=>have:HA 7:=⟨⟩;have:HJ 6 [6,7] (λv:Int=>[]) λH v=>[bx 1 [(1,.d (.int v))] H]:=⟨⟩;walk h⟩
instance ref20_Run_ok:Kd4 136 zab (slE 2 xp) (slE 2 xF) (slE 3 ztv.enc) xq Box.enc:=⟨λn t0 t1 t2 t3 r h=>.ot Tryz.func136 I Tryz.ntmps136 I λ_ _=>have:HX:=⟨⟩;have:HN 14 [0]:=⟨⟩;have:HB 9 [0]:=⟨⟩;have:HC 0 1 0 3 149:=⟨⟩;have:HI 183 _ _ _:=⟨Tryz.func183,Tryz.ntmps183,I⟩;have:HS 141004:=⟨⟩;have:HI 220 _ _ _:=⟨Tryz.func220,Tryz.ntmps220,I⟩;have:HS 48006:=⟨⟩;have:HZ 141012 0 [6] [12]:=⟨⟩;have:HZ 141016 0 [6] [16]:=⟨⟩;have:HJ 141008 [1,2,3,4,8,9,10] (λv:List Step×List Range×Bool×Bool=>[]) λH v=>[(3,wE8 v.1),bx 4 [(0,.vec 3 (xh v.1)),(1,.d (eC v.2.1)),(2,.d (.bool v.2.2.1)),(3,.d (.bool v.2.2.2))] H]:=⟨⟩;have:HL 141007 [1,2,3,4,8,9] (λv:List Step×List Range×Bool×Bool×Int=>[(10,.d (.int v.2.2.2.2))]) λH v=>[(3,wE8 v.1),bx 4 [(0,.vec 3 (xh v.1)),(1,.d (eC v.2.1)),(2,.d (.bool v.2.2.1)),(3,.d (.bool v.2.2.2.1))] H]:=⟨⟩;have:HJ 141006 [1,2,3,4,8,9] (λv:List Step×List Range×Bool×Bool=>[]) λH v=>[(3,wE8 v.1),bx 4 [(0,.vec 3 (xh v.1)),(1,.d (eC v.2.1)),(2,.d (.bool v.2.2.1)),(3,.d (.bool v.2.2.2))] H]:=⟨⟩;have:HJ 141019 [2,3,4,8,13,14] (λv:List Step×List Range×Bool×Bool=>[]) λH v=>[(3,wE8 v.1),bx 4 [(0,.vec 3 (xh v.1)),(1,.d (eC v.2.1)),(2,.d (.bool v.2.2.1)),(3,.d (.bool v.2.2.2))] H]:=⟨⟩;have:HL 141018 [2,3,4,8,13] (λv:List Step×List Range×Bool×Bool×Int=>[(14,.d (.int v.2.2.2.2))]) λH v=>[(3,wE8 v.1),bx 4 [(0,.vec 3 (xh v.1)),(1,.d (eC v.2.1)),(2,.d (.bool v.2.2.1)),(3,.d (.bool v.2.2.2.1))] H]:=⟨⟩;have:HL 141015 [2,3,4,8] (λv:List Step×List Range×Bool×Bool×Int=>[(13,.d (.int v.2.2.2.2))]) λH v=>[(3,wE8 v.1),bx 4 [(0,.vec 3 (xh v.1)),(1,.d (eC v.2.1)),(2,.d (.bool v.2.2.1)),(3,.d (.bool v.2.2.2.1))] H]:=⟨⟩;have:HL 141002 [1,2,3,4,8] (λv:List Step×List Range×Bool×Bool×Int=>[(9,.d (.int v.2.2.2.2))]) λH v=>[(3,wE8 v.1),bx 4 [(0,.vec 3 (xh v.1)),(1,.d (eC v.2.1)),(2,.d (.bool v.2.2.1)),(3,.d (.bool v.2.2.2.1))] H]:=⟨⟩;have:HL 2 [1,2,3,8,9] (λv:List Step×List Range×Bool×Bool=>[]) λH v=>[bx 1 [(0,.vec 3 (xh v.1)),(1,.d (eC v.2.1)),(2,.d (.bool v.2.2.1)),(3,.d (.bool v.2.2.2))] H,(3,wE8 v.1)]:=⟨⟩;walk h⟩
instance ref17_Least_ok:Kd1 40 zbP (slE 2 xp) (slE 1 xq):=⟨λn t0 r h=>.ot Tryz.func40 I Tryz.ntmps40 I λ_ _=>have:HS 5:=⟨⟩;have:HL 3 [0] (λv:List Int×Int=>[(3,.vec 0 (xh v.1)),(4,.d (.int v.2))]) λ_ v=>[(0,.vec 3 1 (xj xq v.1))]:=⟨⟩;walk h⟩
instance ref17_Middle_ok:Kd1 137 zdp xp xq:=⟨λn t0 r h=>.ot Tryz.func137 I Tryz.ntmps137 I λ_ _=>walk h⟩
instance ref20_node_ok:Kd5 82 zM wB (slE 2 xF) (slE 2 xp) xn xq wO:=.self (λ_ _ _ _ _=>I) λn _ t0 t1 t2 t3 t4 r h=>.ot Tryz.func82 I Tryz.ntmps82 I λ_ _=>have:HX:=⟨⟩;have:HTr:=⟨⟩;have:HN 39 [4]:=⟨⟩;have:HN 44 [7]:=⟨⟩;have:HB 12 [7]:=⟨⟩;have:HC 0 1 7 5 40:=⟨⟩;have:HF 23 [4] [14]:=⟨⟩;have:HZ 22 0 [5] [22]:=⟨⟩;have:HE 0 133:=⟨⟩;have:HE 1 243:=⟨⟩;have:HS 65:=⟨⟩;have:HL 20 [1,4,5,10,11,12,13] (λv:List Row×Int=>[(14,.vec 4 (xh v.1)),(16,.d (.int v.2))]) λ_ v=>[(4,.vec 55 2 (xj xF v.1))]:=⟨⟩;have:HL 16 [1,4,5,10,11,12,13] (λv:List Row×Int=>[(14,.vec 4 (xh v.1)),(15,.d (.int v.2))]) λ_ v=>[(4,.vec 55 2 (xj xF v.1))]:=⟨⟩;have:HL 12 [1,4,5,10,11,12] (λv:List Tree×Int×Int=>[(13,.d (.int v.2.2))]) λH v=>[bx 1 [(7,.vec 3 (xh v.1)),(8,.d (.int v.2.1))] H,(3,.vec 40 5 (xj xo v.1))]:=⟨⟩;have:HJ 34 [1,4,5,10,11,12,19] (λv:Int=>[(18,.d (.int v))]) λ_ _=>[]:=⟨⟩;have:HJ 48 [1,4,5,10,11,12,18,20,21] (λv:Int×Int=>[]) λH v=>[bx 4 [(0,.d (.int v.1)),(1,.d (.int v.2))] H]:=⟨⟩;have:HL 43 [1,4,5,10,11,12,18] (λv:List Tree×Int×Int=>[(20,.d (.int v.2.2))]) λH v=>[bx 1 [(7,.vec 3 (xh v.1)),(8,.d (.int v.2.1))] H,(3,.vec 40 5 (xj xo v.1))]:=⟨⟩;have:HL 33 [1,4,5,10,11,12] (λv:Int×Int=>[(18,.d (.int v.1)),(19,.d (.int v.2))]) λ_ _=>[]:=⟨⟩;walk h
instance ref20_Find_ok:Kd2 32 zgQ wB xq λr=>.tup [wO r.1,.int r.2]:=⟨λn t0 t1 r h=>.ot Tryz.func32 I Tryz.ntmps32 I λ_ _=>walk h⟩
instance ref23_Decide_ok:Kd4 11 zcU wa wD xq (slE 1 xq) λr=>.tup [vJ r.1,.int r.2]:=⟨λn t0 t1 t2 t3 r h=>.ot Tryz.func11 I Tryz.ntmps11 I λ_ _=>walk h⟩
instance ref17_Ints_ok:Kd2 33 zcn (slE 1 xq) (slE 1 xq) xn:=⟨λn t0 t1 r h=>.ot Tryz.func33 I Tryz.ntmps33 I λ_ _=>have:HL 4 [0,1] (λv:Int=>[(5,.d (.int v))]) λ_ _=>[]:=⟨⟩;walk h⟩
instance ref20_Steps_ok:Kd2 83 zcb (slE 3 wg) (slE 3 wg) xn:=⟨λn t0 t1 r h=>.ot Tryz.func83 I Tryz.ntmps83 I λ_ _=>have:HL 4 [0,1] (λv:Int=>[(5,.d (.int v))]) λ_ _=>[]:=⟨⟩;walk h⟩
instance ref20_Tree_ok:Kd2 34 zbl xo xo xn:=.self (λ_ _=>I) λn _ t0 t1 r h=>.ot Tryz.func34 I Tryz.ntmps34 I λ_ _=>have:HTr:=⟨⟩;have:HL 4 [2,3] (λv:Int=>[(5,.d (.int v))]) λ_ _=>[]:=⟨⟩;walk h
instance ref23_Same_ok:Kd2 12 zfr vJ vJ xn:=⟨λn t0 t1 r h=>.ot Tryz.func12 I Tryz.ntmps12 I λ_ _=>have:HTr:=⟨⟩;walk h⟩
instance law23_awake_ok:Kd0 8 zhk xn:=⟨λn r h=>.ot Tryz.func8 I Tryz.ntmps8 I λ_ _=>walk h⟩
instance law23_PairDecides_ok:Kd4 3 zdJ wa wD xq (slE 1 xq) xn:=⟨λn t0 t1 t2 t3 r h=>.ot Tryz.func3 I Tryz.ntmps3 I λ_ _=>walk h⟩
end
