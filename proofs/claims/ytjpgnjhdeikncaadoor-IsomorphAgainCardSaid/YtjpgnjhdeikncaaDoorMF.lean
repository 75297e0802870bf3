/- A part of the proofs of this seat: functions and their contracts. -/
import Derived.Test.YtjpgnjhdeikncaaDoorME
set_option linter.unusedVariables false
set_option linter.unusedSimpArgs false
set_option linter.unusedSectionVars false
namespace Go.Ab
open Go Go.Proofs
set_option maxRecDepth 10000
set_option maxHeartbeats 4000000
variable {T:Nat→Obj→Prop}
set_option maxRecDepth 1000000 in
theorem zog:evF ztm 60 zcj [] []=some (.d (.bool true),[]):=by kernel_rfl
theorem ztP (hT:zeI T):Fn Tryd.prog T zcj [] [] (.d (.bool true)) []:=zlq zL (zsI hT) 60 _ _ _ _ _ zog
end Go.Ab
