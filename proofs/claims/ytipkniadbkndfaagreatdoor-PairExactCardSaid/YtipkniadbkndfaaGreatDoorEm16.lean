/- Part of the proof of one law of the seat. -/
import Derived.Test.YtipkniadbkndfaaGreatDoorEm11z
import Derived.Test.YtipkniadbkndfaaGreatDoorEm15
set_option linter.all false
set_option maxRecDepth 100000
set_option maxHeartbeats 40000000
namespace Go.Proofs.YtipkniadbkndfaaGreatDoor
open Go Go.RowKit
open List renaming length->xh,map->xj
open D renaming int->xo,bool->xp
open Range renaming enc->xw
open Model renaming enc->xZ
open _root_.Go.Proofs.YtipkniadbkndfaaGreatDoor.Question renaming enc->wE
section
set_option maxRecDepth 100000
set_option maxHeartbeats 40000000
instance ref22_Shows_ok:Kd4 41 zaK xZ wE (slE 1 xo) (slE 1 xo) xp:=⟨λn t0 t1 t2 t3 r h=>.ot Tryz.func41 I Tryz.ntmps41 I λ_ _=>have:HL 14 [2,3,4,5,10,11,12] (λv:Int=>[(13,.d<|.int v)]) λ_ _=>[]:=⟨⟩;have:HL 4 [2,3,4,5] (λv:Int=>[(9,.d<|.int v)]) λ_ _=>[]:=⟨⟩;walk h⟩
instance ref17_Contains_ok:Kd2 103 zbk (slE 2 xw) (slE 1 xo) xp:=⟨λn t0 t1 r h=>.ot Tryz.func103 I Tryz.ntmps103 I λ_ _=>have:HL 4 [0,1] (λv:Int=>[(5,.d<|.int v)]) λ_ _=>[]:=⟨⟩;walk h⟩
instance ref17_Next_ok:Kd2 42 zbX (slE 2 xw) (slE 1 xo) λr=>.tup [eB r.1,.bool r.2]:=⟨λn t0 t1 r h=>.ot Tryz.func42 I Tryz.ntmps42 I λ_ _=>have:HS 35:=⟨⟩;have:HJ 10 [0,1,6,8] (λv:List Int=>[(7,.vec 0<|xh v)]) λ_ v=>[(0,.vec 3 1<|xj xo v)]:=⟨⟩;have:HL 9 [0,1,6] (λv:List Int×Int=>[(7,.vec 0<|xh v.1),(8,.d<|.int v.2)]) λ_ v=>[(0,.vec 3 1<|xj xo v.1)]:=⟨⟩;have:HL 4 [0,1] (λv:Int=>[(6,.d<|.int v)]) λ_ _=>[]:=⟨⟩;walk h⟩
instance law23_scenarios_ok:Kd3 15 zba xZ wE (slE 1 xo) λr=>eJ r:=⟨λn t0 t1 t2 r h=>.ot Tryz.func15 I Tryz.ntmps15 I λ_ _=>have:HS 7:=⟨⟩;have:HJ 9 [2,3,4,8,9] (λv:List<|List Int=>[(7,.vec 0<|xh v)]) λ_ v=>[(0,.vec 22 1<|xj eB v)]:=⟨⟩;have:HL 6 [2,3,4,8] (λv:List (List Int)×List Int×Bool=>[(7,.vec 0<|xh v.1),(9,.d<|eB v.2.1),(10,.d<|.bool v.2.2)]) λ_ v=>[(0,.vec 22 1<|xj eB v.1)]:=⟨⟩;walk h⟩
instance law23_awake_ok:Kd0 8 zhI xp:=⟨λn r h=>.ot Tryz.func8 I Tryz.ntmps8 I λ_ _=>walk h⟩
instance law23_PairExact_1_ok:Kd2 18 zd1 (slE 1 xo) (λt1=>.ref<|zvr.enc t1) xp:=⟨λn t0 t1 r h=>.ot Tryz.func18 I Tryz.ntmps18 I λ_ _=>walk h⟩
instance slices_IndexFunc_LLint_Lint_ok:Kf2 43 zW (λt0=>eJ t0) (slE 1 xo) xp xo:=⟨λn t0 t1 F hF r h=>.ot Tryz.func43 I Tryz.ntmps43 I λ_ _=>have:HL 2 [0,1,7] (λv:Int=>[(8,.d<|.int v)]) λ_ _=>[]:=⟨⟩;walk h⟩
instance slices_ContainsFunc_LLint_Lint_ok:Kf2 17 za9 (λt0=>eJ t0) (slE 1 xo) xp xp:=⟨λn t0 t1 F hF r h=>.ot Tryz.func17 I Tryz.ntmps17 I λ_ _=>walk h⟩
instance law23_PairExact_ok:Kd3 4 zeW xZ wE (slE 1 xo) xp:=⟨λn t0 t1 t2 r h=>.ot Tryz.func4 I Tryz.ntmps4 I λ_ _=>walk h⟩
end
