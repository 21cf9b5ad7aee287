/- Part of the proof of one law of the seat. -/
import Derived.Test.YtipkniadbkndfaaGreatDoorSm14
set_option linter.all false
set_option maxRecDepth 100000
set_option maxHeartbeats 40000000
namespace Go.Proofs.YtipkniadbkndfaaGreatDoor
open Go Go.RowKit
open D renaming int->xt
open Model renaming enc->xR
section
set_option maxRecDepth 100000
set_option maxHeartbeats 40000000
instance ref16_Total_ok:Kd1 47 zb2 xR xt:=⟨λn t0 r h=>.ot Tryz.func47 I Tryz.ntmps47 I λ_ _=>have:HJ 4 [1,4] (λv:Int=>[(3,.d<|.int v)]) λ_ _=>[]:=⟨⟩;have:HL 3 [1] (λv:Int×Int=>[(3,.d<|.int v.1),(4,.d<|.int v.2)]) λ_ _=>[]:=⟨⟩;walk h⟩
end
