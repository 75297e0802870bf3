/- A part of the proofs of this seat: functions and their contracts. -/
import Derived.Test.YtmnbcipineblbaaGreatDoorMF
set_option linter.unusedVariables false
set_option linter.unusedSimpArgs false
set_option linter.unusedSectionVars false
namespace Go.Ab
open Go Go.Proofs
set_option maxRecDepth 10000
set_option maxHeartbeats 4000000
variable {T:Nat→Obj→Prop}
set_option maxRecDepth 1000000 in
theorem zyW:evF zB9 60 zdk [] []=some (.d (.bool true),[]):=by kernel_rfl
theorem zwS (hT:zeO T):Fn Tryz.prog T zdk [] [] (.d (.bool true)) []:=zrP zw (zCa hT) 60 _ _ _ _ _ zyW
end Go.Ab
