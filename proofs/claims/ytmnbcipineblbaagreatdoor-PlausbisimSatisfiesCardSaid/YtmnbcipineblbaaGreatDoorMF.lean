/- A part of the proofs of this seat: functions and their contracts. -/
import Derived.Test.YtmnbcipineblbaaGreatDoorME
set_option linter.unusedVariables false
set_option linter.unusedSimpArgs false
set_option linter.unusedSectionVars false
namespace Go.Ab
open Go Go.Proofs
set_option maxRecDepth 10000
set_option maxHeartbeats 4000000
variable {T:Nat→Obj→Prop}
set_option maxRecDepth 1000000 in
theorem zvZ:evF zzg 60 zcT [] []=some (.d (.bool true),[]):=by kernel_rfl
theorem zt7 (hT:znm T):Fn Tryz.prog T zcT [] [] (.d (.bool true)) []:=zpB zz (zzh hT) 60 _ _ _ _ _ zvZ
end Go.Ab
