/- Part of the proof of one law of the seat. -/
import Derived.Test.YtipkniadbkndfaaGreatDoorEm13
set_option linter.all false
set_option maxRecDepth 100000
set_option maxHeartbeats 40000000
namespace Go.Proofs.YtipkniadbkndfaaGreatDoor
open Go Go.RowKit
open List renaming length->xh,map->xj
open D renaming int->xo,bool->xp,str->wH
open Range renaming enc->xw
open _root_.Go.Proofs.YtipkniadbkndfaaGreatDoor.Row renaming enc->xO
open Model renaming enc->xZ
open Table renaming enc->wo
open _root_.Go.Proofs.YtipkniadbkndfaaGreatDoor.Question renaming enc->wE
section
set_option maxRecDepth 100000
set_option maxHeartbeats 40000000
instance ref09_nth_ok:Kd3 224 zdN (slE 1 xo) (slE 1 xo) xo<|slE 1 xo:=⟨λn t0 t1 t2 r h=>.ot Tryz.func224 I Tryz.ntmps224 I λ_ _=>have:HL 3 [0,1] (λv:List Int×Int×Int=>[(2,.d<|.int v.2.1),(7,.vec 0<|xh v.1),(8,.d<|.int v.2.2)]) λ_ v=>[(0,.vec 3 1<|xj xo v.1)]:=⟨⟩;walk h⟩
instance ref09_Tuple_ok:Kd4 187 zcG (slE 1 xo) (slE 6 wo) xp xo λr=>.tup [.int r.1,eB r.2.1,.bool r.2.2]:=⟨λn t0 t1 t2 t3 r h=>.ot Tryz.func187 I Tryz.ntmps187 I λ_ _=>have:HL 4 [0,1,2,3] (λv:Int=>[(11,.d<|.int v)]) λ_ _=>[]:=⟨⟩;walk h⟩
instance ref13_set_ok:Kd1 188 ziy xo xp:=⟨λn t0 r h=>.ot Tryz.func188 I Tryz.ntmps188 I λ_ _=>walk h⟩
instance ref13_effect_ok:Kd2 147 zaf xZ zvL.enc xp:=⟨λn t0 t1 r h=>.ot Tryz.func147 I Tryz.ntmps147 I λ_ _=>have:HL 14 [2,3] (λv:Int=>[(9,.d<|.int v)]) λ_ _=>[]:=⟨⟩;have:HL 9 [2,3,5] (λv:Int=>[(8,.d<|.int v)]) λ_ _=>[]:=⟨⟩;have:HL 3 [2,3,5] (λv:Int=>[(6,.d<|.int v)]) λ_ _=>[]:=⟨⟩;walk h⟩
instance ref13_actions_ok:Kd1 87 zD xZ xp:=⟨λn t0 r h=>.ot Tryz.func87 I Tryz.ntmps87 I λ_ _=>have:HS 12:=⟨⟩;have:HL 8 [1,3,4,5] (λv:Int=>[(6,.d<|.int v)]) λ_ _=>[]:=⟨⟩;have:HJ 32 [1,7,8] (λv:Unit=>[]) λ_ _=>[]:=⟨⟩;have:HL 23 [1,7,8] (λv:Int=>[(9,.d<|.int v)]) λ_ _=>[]:=⟨⟩;have:HL 17 [1] (λv:Int=>[(7,.d<|.int v)]) λ_ _=>[]:=⟨⟩;have:HL 3 [1] (λv:List (List UInt8)×Int=>[(3,.vec 0<|xh v.1),(4,.d<|.int v.2)]) λ_ v=>[(0,.vec 9 1<|xj wH v.1)]:=⟨⟩;walk h⟩
instance ref13_leads_ok:Kd4 148 zaV xZ xo xo xo xp:=.self (λ_ _ _ _=>I) λn _ t0 t1 t2 t3 r h=>.ot Tryz.func148 I Tryz.ntmps148 I λ_ _=>have:HL 4 [1,2,3,4] (λv:Int=>[(9,.d<|.int v)]) λ_ _=>[]:=⟨⟩;walk h
instance ref13_hidden_ok:Kd1 88 zaG xZ xp:=⟨λn t0 r h=>.ot Tryz.func88 I Tryz.ntmps88 I λ_ _=>have:HX:=⟨⟩;have:HZ 6 0 [0,1] [5,6]:=⟨⟩;have:HL 13 [1] (λv:Int=>[(7,.d<|.int v)]) λ_ _=>[]:=⟨⟩;have:HL 4 [1] (λv:Int=>[(3,.d<|.int v)]) λ_ _=>[]:=⟨⟩;walk h⟩
instance ref13_Valid_ok:Kd1 35 zge xZ xp:=⟨λn t0 r h=>.ot Tryz.func35 I Tryz.ntmps35 I λ_ _=>walk h⟩
instance ref16_Valid_ok:Kd2 13 zdu xZ wE xp:=⟨λn t0 t1 r h=>.ot Tryz.func13 I Tryz.ntmps13 I λ_ _=>walk h⟩
instance ref16_Strict_ok:Kd1 96 zeo xo xp:=⟨λn t0 r h=>.ot Tryz.func96 I Tryz.ntmps96 I λ_ _=>walk h⟩
instance ref16_Cells_ok:Kd2 97 zcp xZ wo xo:=⟨λn t0 t1 r h=>.ot Tryz.func97 I Tryz.ntmps97 I λ_ _=>have:HL 3 [2,3] (λv:Int×Int=>[(5,.d<|.int v.1),(6,.d<|.int v.2)]) λ_ _=>[]:=⟨⟩;walk h⟩
instance ref22_Box_ok:Kd1 39 zb4 xZ<|slE 2 xw:=⟨λn t0 r h=>.ot Tryz.func39 I Tryz.ntmps39 I λ_ _=>have:HS 6:=⟨⟩;have:HL 7 [1,4] (λv:List Range×Int=>[(3,.vec 0<|xh v.1),(5,.d<|.int v.2)]) λ_ v=>[(0,.vec 83 2<|xj xw v.1)]:=⟨⟩;have:HJ 4 [1,4] (λv:List Range=>[(3,.vec 0<|xh v)]) λ_ v=>[(0,.vec 83 2<|xj xw v)]:=⟨⟩;have:HL 3 [1] (λv:List Range×Int=>[(3,.vec 0<|xh v.1),(4,.d<|.int v.2)]) λ_ v=>[(0,.vec 83 2<|xj xw v.1)]:=⟨⟩;walk h⟩
instance ref22_Add_ok:Kd2 133 za4 zvL.enc xo xo:=⟨λn t0 t1 r h=>.ot Tryz.func133 I Tryz.ntmps133 I λ_ _=>have:HJ 4 [1,2,6] (λv:Int=>[(5,.d<|.int v)]) λ_ _=>[]:=⟨⟩;have:HL 3 [1,2] (λv:Int×Int=>[(5,.d<|.int v.1),(6,.d<|.int v.2)]) λ_ _=>[]:=⟨⟩;walk h⟩
instance ref17_inside_ok:Kd3 158 zbi xo xo xo xp:=⟨λn t0 t1 t2 r h=>.ot Tryz.func158 I Tryz.ntmps158 I λ_ _=>walk h⟩
instance ref17_Row_ok:Kd2 159 zdP xO xo xp:=⟨λn t0 t1 r h=>.ot Tryz.func159 I Tryz.ntmps159 I λ_ _=>have:HL 3 [1,2] (λv:Int×Int=>[(5,.d<|.int v.1),(6,.d<|.int v.2)]) λ_ _=>[]:=⟨⟩;walk h⟩
instance ref17_Valid_ok:Kd2 102 zae (slE 2 xw) (slE 2 xO) xp:=⟨λn t0 t1 r h=>.ot Tryz.func102 I Tryz.ntmps102 I λ_ _=>have:HL 9 [0,1] (λv:Int=>[(6,.d<|.int v)]) λ_ _=>[]:=⟨⟩;have:HL 4 [0,1] (λv:Int=>[(5,.d<|.int v)]) λ_ _=>[]:=⟨⟩;walk h⟩
end
