/- Part of the proof of one law of the seat. -/
import Derived.Test.YtipkniadbkndfaaGreatDoorFr13
set_option linter.unusedVariables false
set_option linter.unusedSectionVars false
set_option linter.unusedSimpArgs false
set_option maxRecDepth 100000
set_option maxHeartbeats 40000000
namespace Go.Proofs.YtipkniadbkndfaaGreatDoor
open Go Go.RowKit
section
set_option maxRecDepth 100000
set_option maxHeartbeats 40000000
instance law23_PairRelative_ok:Kd3 6 zds Model.enc Question.enc (slE 1 D.int) D.bool:=⟨λn t0 t1 t2 r h=>.ot Tryz.func6 I Tryz.ntmps6 I λ_ _=>walk h⟩
end
end Go.Proofs.YtipkniadbkndfaaGreatDoor
