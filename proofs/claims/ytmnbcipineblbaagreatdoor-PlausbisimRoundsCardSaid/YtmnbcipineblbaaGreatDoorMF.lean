/- A part of the proofs of this seat: functions and their contracts. -/
import Derived.Test.YtmnbcipineblbaaGreatDoorME
set_option linter.unusedVariables false
set_option linter.unusedSimpArgs false
set_option linter.unusedSectionVars false
namespace Go.Ab
open Go Go.Proofs
set_option linter.unusedSimpArgs false
set_option linter.unusedVariables false
set_option maxRecDepth 10000
set_option maxHeartbeats 4000000
variable {T:Nat→Obj→Prop}
set_option maxRecDepth 1000000 in
theorem run_awake:evF cfgP 60 f_wittinglaw35_awake [] []=some (.d (.bool true),[]):=by kernel_rfl
theorem fn_awake35 (hT:TzOk T):Fn Tryz.prog T f_wittinglaw35_awake [] [] (.d (.bool true)) []:=evF_sound hmix (cfg_ok hT) 60 _ _ _ _ _ run_awake
end Go.Ab
