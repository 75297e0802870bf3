/- A part of the proofs of this seat: functions and their contracts. -/
import Derived.Test.YtmnbcipineblbaaGreatDoorMF
set_option linter.unusedVariables false
set_option linter.unusedSimpArgs false
set_option linter.unusedSectionVars false
namespace Go.Ab
open Go Go.Proofs
set_option maxRecDepth 10000
set_option maxHeartbeats 4000000
variable {T:Nat→Obj→Prop}
set_option maxRecDepth 1000000 in
theorem zzJ:evF zDi 60 zeg [] []=some (.d (.bool true),[]):=by kernel_rfl
theorem zxO (hT:zqn T):Fn Tryz.prog T zeg [] [] (.d (.bool true)) []:=zsR zp (zDj hT) 60 _ _ _ _ _ zzJ
end Go.Ab
