/- A part of the proofs of this seat: functions and their contracts. -/
import Derived.Test.YtmnbcipineblbaaGreatDoorME
set_option linter.unusedVariables false
set_option linter.unusedSimpArgs false
set_option linter.unusedSectionVars false
namespace Go.Ab
open Go Go.Proofs
set_option maxRecDepth 10000
set_option maxHeartbeats 4000000
variable {T:Nat→Obj→Prop}
set_option maxRecDepth 1000000 in
theorem ztG:evF zwq 60 zcy [] []=some (.d (.bool true),[]):=by kernel_rfl
theorem zwX (hT:zd4 T):Fn Tryz.prog T zcy [] [] (.d (.bool true)) []:=znT zJ (zwr hT) 60 _ _ _ _ _ ztG
end Go.Ab
