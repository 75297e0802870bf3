/- A part of the proofs of this seat: functions and their contracts. -/
import Derived.Test.YtjehkdhnhfghiaaGreatDoorMF
set_option linter.unusedVariables false
set_option linter.unusedSimpArgs false
set_option linter.unusedSectionVars false
namespace Go.Ab
open Go Go.Proofs
set_option maxRecDepth 10000
set_option maxHeartbeats 4000000
variable {T:Nat→Obj→Prop}
set_option maxRecDepth 1000000 in
theorem zvr:evF zCz 60 zdA [] []=some (.d (.bool true),[]):=by kernel_rfl
theorem zC8 (hT:zbV T) (hX:zfj T):Fn Tryz.prog T zdA [] [] (.d (.bool true)) []:=zrV zm (zBv hT hX) 60 _ _ _ _ _ zvr
end Go.Ab
