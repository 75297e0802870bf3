/- A part of the proofs of this seat: functions and their contracts. -/
import Derived.Test.YtjpgnjhdeikncaaGreatDoorMF
set_option linter.unusedVariables false
set_option linter.unusedSimpArgs false
set_option linter.unusedSectionVars false
namespace Go.Ab
open Go Go.Proofs
set_option maxRecDepth 10000
set_option maxHeartbeats 4000000
variable {T:Nat→Obj→Prop}
set_option maxRecDepth 1000000 in
theorem zp2:evF zvD 60 zcD [] []=some (.d (.bool true),[]):=by kernel_rfl
theorem zv7 (hT:zeN T):Fn Tryz.prog T zcD [] [] (.d (.bool true)) []:=zm7 zp (zuH hT) 60 _ _ _ _ _ zp2
end Go.Ab
