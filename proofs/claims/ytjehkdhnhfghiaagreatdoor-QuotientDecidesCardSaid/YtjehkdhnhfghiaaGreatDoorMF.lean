/- A part of the proofs of this seat: functions and their contracts. -/
import Derived.Test.YtjehkdhnhfghiaaGreatDoorME
set_option linter.unusedVariables false
set_option linter.unusedSimpArgs false
set_option linter.unusedSectionVars false
namespace Go.Ab
open Go Go.Proofs
set_option maxRecDepth 10000
set_option maxHeartbeats 4000000
variable {T:Nat→Obj→Prop}
set_option maxRecDepth 1000000 in
theorem zsS:evF zzt 60 zdn [] []=some (.d (.bool true),[]):=by kernel_rfl
theorem zz2 (hT:zbP T) (hX:zfd T):Fn Tryz.prog T zdn [] [] (.d (.bool true)) []:=zpx zy (zyu hT hX) 60 _ _ _ _ _ zsS
end Go.Ab
