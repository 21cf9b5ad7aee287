/- Part of the proof of one law of the seat. -/
import Derived.Test.YtipkniadbkndfaaGreatDoorEm09
set_option linter.all false
set_option maxRecDepth 100000
set_option maxHeartbeats 40000000
namespace Go.Proofs.YtipkniadbkndfaaGreatDoor
open Go Go.RowKit
open List renaming length->xh,map->xj
open D renaming int->xo,bool->xp
open Range renaming enc->xw
open Constraint renaming enc->xC
open _root_.Go.Proofs.YtipkniadbkndfaaGreatDoor.Row renaming enc->xO
open Step renaming enc->ww
open Action renaming enc->wL
open System renaming enc->wW
section
set_option maxRecDepth 100000
set_option maxHeartbeats 40000000
abbrev wE2 a:=(.vec 83 2<|xj xw a:Blk)
abbrev wE3 a:=(.vec 149 3<|xj ww a:Blk)
instance digraph_Cycles_i:Kd2 118 zbD xo (slE 1 xp)<|slE 1 λl=>eB l:=⟨ziZ⟩
instance condition_cases_ok:Kd4 68 zn (slE 2 xw) xC wL wL λr=>eN r:=⟨λn t0 t1 t2 t3 r h=>.ot Tryz.func68 I Tryz.ntmps68 I λ_ _=>have:HX:=⟨⟩;have:HF 9 [0] [10]:=⟨⟩;have:HF 22 [2] [15]:=⟨⟩;have:HS 15:=⟨⟩;have:HS 12:=⟨⟩;have:HL 15 [5,6,7,9,12,14,53,54,55,59,60] (λv:List Row×Bool×Bool×Int=>[(15,.vec 2<|xh v.1),(16,.d<|.bool v.2.1),(17,.d<|.bool v.2.2.1),(61,.d<|.int v.2.2.2)]) λ_ v=>[(2,.vec 55 2<|xj xO v.1)]:=⟨⟩;have:HJ 23 [5,6,7,9,53,54,55] (λv:List<|List Row=>[(12,.vec 1<|xh v)]) λ_ v=>[(1,.vec 74 1<|xj eL v)]:=⟨⟩;have:HL 10 [5,6,7,9,53,54] (λv:List (List Row)×Int=>[(12,.vec 1<|xh v.1),(55,.d<|.int v.2)]) λ_ v=>[(1,.vec 74 1<|xj eL v.1)]:=⟨⟩;have:HL 4 [0,5,6,7,9,29] (λv:List Bool×Int=>[(10,.vec 0<|xh v.1),(30,.d<|.int v.2)]) λ_ v=>[(0,.vec 4 1<|xj xp v.1)]:=⟨⟩;walk h⟩
instance interval_box_ok:Kd1 169 zaR (slE 2 xw) xp:=⟨λn t0 r h=>.ot Tryz.func169 I Tryz.ntmps169 I λ_ _=>have:HL 2 [0,5,6] (λv:Int=>[(7,.d<|.int v)]) λ_ _=>[]:=⟨⟩;walk h⟩
instance interval_fits_ok:Kd2 172 zaN xo xO xp:=⟨λn t0 t1 r h=>.ot Tryz.func172 I Tryz.ntmps172 I λ_ _=>have:HL 3 [0,3,9,10] (λv:Int×Int=>[(5,.d<|.int v.1),(11,.d<|.int v.2)]) λ_ _=>[]:=⟨⟩;walk h⟩
instance interval_Valid_1_ok:Kd2 171 zbO xO (λt1=>.ref<|eC t1) xp:=⟨λn t0 t1 r h=>.ot Tryz.func171 I Tryz.ntmps171 I λ_ _=>walk h⟩
instance interval_Valid_ok:Kd2 119 zbj (slE 2 xw) (slE 2 xO) xp:=⟨λn t0 t1 r h=>.ot Tryz.func119 I Tryz.ntmps119 I λ_ _=>walk h⟩
instance slices_IndexFunc_LRange_api_Range_ok:Kf2 130 zf (slE 2 xw) xw xp xo:=⟨λn t0 t1 F hF r h=>.ot Tryz.func130 I Tryz.ntmps130 I λ_ _=>have:HL 2 [0,1,7] (λv:Int=>[(8,.d<|.int v)]) λ_ _=>[]:=⟨⟩;walk h⟩
instance slices_ContainsFunc_LRange_api_Range_ok:Kf2 173 zZ (slE 2 xw) xw xp xp:=⟨λn t0 t1 F hF r h=>.ot Tryz.func173 I Tryz.ntmps173 I λ_ _=>walk h⟩
instance interval_empty_ok:Kd1 174 zcP xw xp:=⟨λn t0 r h=>.ot Tryz.func174 I Tryz.ntmps174 I λ_ _=>walk h⟩
instance interval_Empty_ok:Kd1 120 zbE (slE 2 xw) xp:=⟨λn t0 r h=>.ot Tryz.func120 I Tryz.ntmps120 I λ_ _=>walk h⟩
instance system_rows_ok:Kd3 121 zd6 wW (slE 2 xO) xo xp:=⟨λn t0 t1 t2 r h=>.ot Tryz.func121 I Tryz.ntmps121 I λ_ _=>walk h⟩
instance system_graph_1_ok:Kd1 175 zfB xo xp:=⟨λn t0 r h=>.ot Tryz.func175 I Tryz.ntmps175 I λ_ _=>walk h⟩
instance system_graph_ok:Kd2 122 zfr xo zvg.enc xp:=⟨λn t0 t1 r h=>.ot Tryz.func122 I Tryz.ntmps122 I λ_ _=>walk h⟩
instance system_Valid_1_ok:Kd2 124 zfA (slE 2 xO) (λt1=>.ref<|wW t1) xp:=⟨λn t0 t1 r h=>.ot Tryz.func124 I Tryz.ntmps124 I λ_ _=>walk h⟩
instance slices_IndexFunc_LLRow_LRow_ok:Kf2 176 zac (λt0=>eN t0) (slE 2 xO) xp xo:=⟨λn t0 t1 F hF r h=>.ot Tryz.func176 I Tryz.ntmps176 I λ_ _=>have:HL 2 [0,1,7] (λv:Int=>[(8,.d<|.int v)]) λ_ _=>[]:=⟨⟩;walk h⟩
instance slices_ContainsFunc_LLRow_LRow_ok:Kf2 123 za8 (λt0=>eN t0) (slE 2 xO) xp xp:=⟨λn t0 t1 F hF r h=>.ot Tryz.func123 I Tryz.ntmps123 I λ_ _=>walk h⟩
instance system_Valid_ok:Kd1 69 zas wW xp:=⟨λn t0 r h=>.ot Tryz.func69 I Tryz.ntmps69 I λ_ _=>have:HL 4 [1,34,35] (λv:Int=>[(36,.d<|.int v)]) λ_ _=>[]:=⟨⟩;walk h⟩
end
