/- A part of the proofs of this seat: functions and their contracts. -/
import Derived.Test.YtkmhdnlmghaooaaGreatDoorME
set_option linter.unusedVariables false
set_option linter.unusedSimpArgs false
set_option linter.unusedSectionVars false
namespace Go.Ab
open Go Go.Proofs
set_option maxRecDepth 10000
set_option maxHeartbeats 4000000
variable {T:Nat→Obj→Prop}
set_option maxRecDepth 1000000 in
theorem ztK:evF zAL 60 zdi [] []=some (.d (.bool true),[]):=by kernel_rfl
theorem zBv (hT:ze5 T) (hX:zgD T):Fn Tryz.prog T zdi [] [] (.d (.bool true)) []:=zqr zu (zzE hT hX) 60 _ _ _ _ _ ztK
end Go.Ab
