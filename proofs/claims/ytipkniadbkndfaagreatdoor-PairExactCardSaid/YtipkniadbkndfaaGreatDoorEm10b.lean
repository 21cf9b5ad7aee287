/- Part of the proof of one law of the seat. -/
import Derived.Test.YtipkniadbkndfaaGreatDoorEm10a
set_option linter.all false
set_option maxRecDepth 100000
set_option maxHeartbeats 40000000
namespace Go.Proofs.YtipkniadbkndfaaGreatDoor
open Go Go.RowKit
open List renaming length->xh,map->xj
open D renaming int->xo
open _root_.Go.Proofs.YtipkniadbkndfaaGreatDoor.Row renaming enc->xO
open Model renaming enc->xZ
open _root_.Go.Proofs.YtipkniadbkndfaaGreatDoor.Question renaming enc->wE
open System renaming enc->wW
section
set_option maxRecDepth 100000
set_option maxHeartbeats 40000000
instance condition_System_ok:Kd3 26 zh xZ wE (slE 1 xo) λr=>.tup [wW r.1,.int r.2]:=⟨λn t0 t1 t2 r h=>.ot Tryz.func26 I Tryz.ntmps26 I λ_ _=>have:HX:=⟨⟩;have:HZ 11 0 [1,2] [10,11]:=⟨⟩;have:HN 71 [1,2]:=⟨⟩;have:HB 12 [1,2]:=⟨⟩;have:HC 0 3 1 2 55:=⟨⟩;have:HC 1 3 2 3 124:=⟨⟩;have:HS 128:=⟨⟩;have:HA 22:=⟨⟩;have:HI 59 _ _ _:=⟨Tryz.func59,Tryz.ntmps59,I⟩;have:HD 33 5:=⟨⟩;have:HD 36 12:=⟨⟩;have:HJ 19 [2,3,4,6,10,11,12,14,73,74,75] (λv:Int=>[(17,.d<|.int v)]) λ_ _=>[]:=⟨⟩;have:HJ 20 [2,3,4,6,10,11,12,73,74,75] (λv:List Row=>[]) λH v=>[bx 3 [(1,.vec 6<|xh v)] H,(6,.vec 55 2<|xj xO v)]:=⟨⟩;have:HJ 44 [4,6,10,11,12,22,25,196,197,198] (λv:List zvg=>[]) λH v=>[bx 3 [(2,.vec 7<|xh v)] H,(7,.vec 124 3<|xj zvg.enc v)]:=⟨⟩;have:HJ 46 [4,6,10,11,12,22,196,197,198] (λv:List zvg=>[]) λH v=>[bx 3 [(2,.vec 7<|xh v)] H,(7,.vec 124 3<|xj zvg.enc v)]:=⟨⟩;have:HJ 51 [6,12] (λv:List Row×List (List Row)=>[]) λH v=>[bx 3 [(1,.vec 6<|xh v.1),(3,.d<|eN v.2)] H,(6,.vec 55 2<|xj xO v.1)]:=⟨⟩;have:HL 38 [4,6,10,11,12,22,196,197] (λv:List zvg×Int=>[(198,.d<|.int v.2)]) λH v=>[bx 3 [(2,.vec 7<|xh v.1)] H,(7,.vec 124 3<|xj zvg.enc v.1)]:=⟨⟩;have:HJ 37 [3,4,6,10,11,12,22] (λv:List Row×Int×Int×List Term×Int×Int×Int=>[]) λH v=>[bx 3 [(1,.vec 6<|xh v.1)] H,(6,.vec 55 2<|xj xO v.1),bx 9 [(0,.d<|.int v.2.1),(1,.d<|.int v.2.2.1),(2,.d<|eI v.2.2.2.1),(3,.d<|.int v.2.2.2.2.1),(4,.d<|.int v.2.2.2.2.2.1),(5,.d<|.int v.2.2.2.2.2.2)] H]:=⟨⟩;have:HL 25 [3,4,6,10,11,12,139,140] (λv:List Row×Int=>[(141,.d<|.int v.2)]) λH v=>[bx 3 [(1,.vec 6<|xh v.1)] H,(6,.vec 55 2<|xj xO v.1)]:=⟨⟩;have:HJ 24 [3,4,6,10,11,12] (λv:List Row=>[(18,.vec 8<|xh v)]) λ_ v=>[(8,.vec 55 2<|xj xO v)]:=⟨⟩;have:HL 12 [2,3,4,6,10,11,12,73,74] (λv:List Row×Int=>[(75,.d<|.int v.2)]) λH v=>[bx 3 [(1,.vec 6<|xh v.1)] H,(6,.vec 55 2<|xj xO v.1)]:=⟨⟩;have:HL 4 [2,3,4,6,31,32] (λv:Int=>[(33,.d<|.int v)]) λ_ _=>[]:=⟨⟩;walk h⟩
end
