/- A part of the proofs of this seat: functions and their contracts. -/
import Derived.Test.YtjehkdhnhfghiaaGreatDoorME
set_option linter.unusedVariables false
set_option linter.unusedSimpArgs false
set_option linter.unusedSectionVars false
namespace Go.Ab
open Go Go.Proofs
set_option maxRecDepth 10000
set_option maxHeartbeats 4000000
variable {T:Nat→Obj→Prop}
set_option maxRecDepth 1000000 in
theorem ztZ:evF zAR 60 zdw [] []=some (.d (.bool true),[]):=by kernel_rfl
theorem zBr (hT:za0 T) (hX:zfv T):Fn Tryz.prog T zdw [] [] (.d (.bool true)) []:=zqt zx (zzG hT hX) 60 _ _ _ _ _ ztZ
end Go.Ab
