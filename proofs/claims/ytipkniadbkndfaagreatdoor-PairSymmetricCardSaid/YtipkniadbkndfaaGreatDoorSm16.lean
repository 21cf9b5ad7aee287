/- Part of the proof of one law of the seat. -/
import Derived.Test.YtipkniadbkndfaaGreatDoorSm11z
import Derived.Test.YtipkniadbkndfaaGreatDoorSm15
set_option linter.all false
set_option maxRecDepth 100000
set_option maxHeartbeats 40000000
namespace Go.Proofs.YtipkniadbkndfaaGreatDoor
open Go Go.RowKit
open List renaming length->xh,map->xn
open D renaming bool->xp,int->xt
open _root_.Go.Proofs.YtipkniadbkndfaaGreatDoor.Row renaming enc->xM
open Model renaming enc->xR
open _root_.Go.Proofs.YtipkniadbkndfaaGreatDoor.Question renaming enc->wz
open Term renaming enc->wQ
open Swap renaming enc->vC
section
set_option maxRecDepth 100000
set_option maxHeartbeats 40000000
instance ref16_Swap_ok:Kd2 44 zeU xR vC xp:=⟨λn t0 t1 r h=>.ot Tryz.func44 I Tryz.ntmps44 I λ_ _=>walk h⟩
instance ref16_element_ok:Kd2 109 zde vC xt xt:=⟨λn t0 t1 r h=>.ot Tryz.func109 I Tryz.ntmps109 I λ_ _=>walk h⟩
instance ref16_move_ok:Kd4 48 zaQ xR vC xt xp xt:=⟨λn t0 t1 t2 t3 r h=>.ot Tryz.func48 I Tryz.ntmps48 I λ_ _=>have:HJ 16 [4,5,10,11,12,13,14,15] (λv:Int=>[(16,.d<|.int v)]) λ_ _=>[]:=⟨⟩;have:HL 10 [4,5,10] (λv:Int×Int×Int×Int=>[(11,.d<|.int v.1),(12,.d<|.int v.2.1),(13,.d<|.int v.2.2.1),(14,.d<|.int v.2.2.2)]) λ_ _=>[]:=⟨⟩;have:HL 2 [2,3,4,5] (λv:Int=>[(9,.d<|.int v)]) λ_ _=>[]:=⟨⟩;walk h⟩
instance ref16_row_ok:Kd3 106 zbQ xR vC xM xM:=⟨λn t0 t1 t2 r h=>.ot Tryz.func106 I Tryz.ntmps106 I λ_ _=>have:HX:=⟨⟩;have:HA 7:=⟨⟩;have:HZ 9 0 [2] [9]:=⟨⟩;have:HF 17 [3] [10]:=⟨⟩;have:HS 39:=⟨⟩;have:HJ 14 [3,4,5,6,7,8,9,12] (λv:List Term×Bool=>[(10,.vec 3<|xh v.1),(11,.d<|.bool v.2)]) λ_ v=>[(3,.vec 109 2<|xn wQ v.1)]:=⟨⟩;have:HJ 17 [3,4,5,6,7,8] (λv:List Term=>[(10,.vec 3<|xh v)]) λ_ v=>[(3,.vec 109 2<|xn wQ v)]:=⟨⟩;have:HL 9 [3,4,5,6,7,8,9] (λv:List Term×Bool×Int=>[(10,.vec 3<|xh v.1),(11,.d<|.bool v.2.1),(12,.d<|.int v.2.2)]) λ_ v=>[(3,.vec 109 2<|xn wQ v.1)]:=⟨⟩;have:HL 3 [3,4,5,6,7] (λv:List Term×Int=>[(8,.d<|.int v.2)]) λH v=>[bx 1 [(0,.d<|eI v.1)] H]:=⟨⟩;walk h⟩
instance ref16_SameRow_ok:Kd2 107 zaw xM xM xp:=⟨λn t0 t1 r h=>.ot Tryz.func107 I Tryz.ntmps107 I λ_ _=>have:HL 4 [2,3] (λv:Int=>[(5,.d<|.int v)]) λ_ _=>[]:=⟨⟩;walk h⟩
instance ref16_times_ok:Kd3 108 zbq (slE 2 xM) xt xM xt:=⟨λn t0 t1 t2 r h=>.ot Tryz.func108 I Tryz.ntmps108 I λ_ _=>have:HJ 4 [0,1,5,8] (λv:Int=>[(7,.d<|.int v)]) λ_ _=>[]:=⟨⟩;have:HL 3 [0,1,5] (λv:Int×Int=>[(7,.d<|.int v.1),(8,.d<|.int v.2)]) λ_ _=>[]:=⟨⟩;walk h⟩
instance ref16_updates_ok:Kd2 200 zbz (slE 3 zwg.enc) zwg.enc xt:=⟨λn t0 t1 r h=>.ot Tryz.func200 I Tryz.ntmps200 I λ_ _=>have:HJ 4 [0,3,6] (λv:Int=>[(5,.d<|.int v)]) λ_ _=>[]:=⟨⟩;have:HL 3 [0,3] (λv:Int×Int=>[(5,.d<|.int v.1),(6,.d<|.int v.2)]) λ_ _=>[]:=⟨⟩;walk h⟩
instance ref16_alike_ok:Kd4 160 zW xR vC zwf.enc zwf.enc xp:=⟨λn t0 t1 t2 t3 r h=>.ot Tryz.func160 I Tryz.ntmps160 I λ_ _=>have:HX:=⟨⟩;have:HZ 13 0 [0] [13]:=⟨⟩;have:HA 15:=⟨⟩;have:HJ 9 [4,5,6,7,9,11] (λv:Bool=>[(10,.d<|.bool v)]) λ_ _=>[]:=⟨⟩;have:HL 8 [4,5,6,7,9] (λv:Bool×Int=>[(10,.d<|.bool v.1),(11,.d<|.int v.2)]) λ_ _=>[]:=⟨⟩;have:HL 21 [4,5,6,7] (λv:Int=>[(14,.d<|.int v)]) λ_ _=>[]:=⟨⟩;have:HL 15 [4,5,6,7] (λv:Int=>[(12,.d<|.int v)]) λ_ _=>[]:=⟨⟩;have:HL 4 [4,5,6,7] (λv:Int=>[(9,.d<|.int v)]) λ_ _=>[]:=⟨⟩;walk h⟩
instance ref16_moveAction_ok:Kd3 104 zY xR vC xt λr=>.tup [.int r.1,.bool r.2]:=⟨λn t0 t1 t2 r h=>.ot Tryz.func104 I Tryz.ntmps104 I λ_ _=>have:HJ 14 [3,4,8,9,10,11,13] (λv:Int=>[(14,.d<|.int v)]) λ_ _=>[]:=⟨⟩;have:HL 9 [3,4,8,9,10,11] (λv:Bool×Int=>[(12,.d<|.bool v.1),(13,.d<|.int v.2)]) λ_ _=>[]:=⟨⟩;have:HL 4 [3,4,8,9] (λv:Int=>[(10,.d<|.int v)]) λ_ _=>[]:=⟨⟩;walk h⟩
instance ref16_rank_ok:Kd2 161 zb7 xR xt xt:=⟨λn t0 t1 r h=>.ot Tryz.func161 I Tryz.ntmps161 I λ_ _=>have:HJ 5 [1,2,5,7] (λv:Int=>[(6,.d<|.int v)]) λ_ _=>[]:=⟨⟩;have:HL 4 [1,2,5] (λv:Int×Int=>[(6,.d<|.int v.1),(7,.d<|.int v.2)]) λ_ _=>[]:=⟨⟩;walk h⟩
instance ref16_moveConstraint_ok:Kd3 105 zad xR vC xt λr=>.tup [.int r.1,.bool r.2]:=⟨λn t0 t1 t2 r h=>.ot Tryz.func105 I Tryz.ntmps105 I λ_ _=>have:HL 6 [2,3,8,9] (λv:Int=>[(10,.d<|.int v)]) λ_ _=>[]:=⟨⟩;walk h⟩
instance ref16_symmetric_ok:Kd2 45 zaa xR vC xp:=⟨λn t0 t1 r h=>.ot Tryz.func45 I Tryz.ntmps45 I λ_ _=>have:HL 8 [2,3] (λv:Int=>[(8,.d<|.int v)]) λ_ _=>[]:=⟨⟩;have:HL 2 [2,3] (λv:Int=>[(5,.d<|.int v)]) λ_ _=>[]:=⟨⟩;walk h⟩
instance ref16_Holds_ok:Kd2 19 zfa xR vC xp:=⟨λn t0 t1 r h=>.ot Tryz.func19 I Tryz.ntmps19 I λ_ _=>walk h⟩
instance ref16_Move_ok:Kd3 46 zdd xR vC wz λr=>.tup [wz r.1,.bool r.2]:=⟨λn t0 t1 t2 r h=>.ot Tryz.func46 I Tryz.ntmps46 I λ_ _=>have:HX:=⟨⟩;have:HZ 16 0 [1] [16]:=⟨⟩;have:HL 14 [5,6,8,10,14,15,16] (λv:Int=>[(17,.d<|.int v)]) λ_ _=>[]:=⟨⟩;walk h⟩
instance ref16_Question_ok:Kd3 20 zcN xR vC wz λr=>.tup [wz r.1,.bool r.2]:=⟨λn t0 t1 t2 r h=>.ot Tryz.func20 I Tryz.ntmps20 I λ_ _=>walk h⟩
instance ref16_State_ok:Kd3 21 zbN xR vC (slE 1 xt) λr=>.tup [eB r.1,.bool r.2]:=⟨λn t0 t1 t2 r h=>.ot Tryz.func21 I Tryz.ntmps21 I λ_ _=>have:HS 21:=⟨⟩;have:HL 5 [2,3,4] (λv:List Int×Int=>[(8,.vec 0<|xh v.1),(9,.d<|.int v.2)]) λ_ v=>[(0,.vec 3 1<|xn xt v.1)]:=⟨⟩;walk h⟩
instance law23_awake_ok:Kd0 8 zhN xp:=⟨λn r h=>.ot Tryz.func8 I Tryz.ntmps8 I λ_ _=>walk h⟩
instance law23_PairSymmetric_ok:Kd3 7 zdy xR wz vC xp:=⟨λn t0 t1 t2 r h=>.ot Tryz.func7 I Tryz.ntmps7 I λ_ _=>walk h⟩
end
