/- A part of the proofs of this seat: functions and their contracts. -/
import Derived.Test.YtmnbcipineblbaaGreatDoorMF
set_option linter.unusedVariables false
set_option linter.unusedSimpArgs false
set_option linter.unusedSectionVars false
namespace Go.Ab
open Go Go.Proofs
set_option maxRecDepth 10000
set_option maxHeartbeats 4000000
variable {T:Nat→Obj→Prop}
set_option maxRecDepth 1000000 in
theorem zv3:evF zy5 60 zcG [] []=some (.d (.bool true),[]):=by kernel_rfl
theorem zuf (hT:zd3 T):Fn Tryz.prog T zcG [] [] (.d (.bool true)) []:=zpK zw (zy6 hT) 60 _ _ _ _ _ zv3
end Go.Ab
