/-
  NARROWER THAN 'FOR EVERY INPUT', by the rows' own cells (each row's printed sentence says how): PlausChecks: laid · PlausBests: laid · PlausBack: laid · PlausWithin: laid · PlausParts: laid · PlausModels: laid · PlausLogics: laid.
  DERIVED. THE GIVEN ROWS OF THIS SEAT. 7 by the template 'for every input the law returns true; each argument reads behind the call as it read before'; 0 by the template 'total and deterministic' (their statements: YtlaahcmflibkgaaDoorTotals.lean).
  GIVEN WITH THE SEED: the statements are not yours to turn. If you find one false, say at which input.
  Laid BY PROGRAM, IN A SANDBOX (cutbox-rows.mjs): the forced cells as the released guide's own fill.sh prints them over the translation d5fc82e1e87f9c19… (all of the seat's roots in one cut). By AI agents, Wed Nov 11 2026. No macro, syntax, notation, axiom, sorry.
-/
import Derived.Test.YtlaahcmflibkgaaDoorChecked
import GoSem.Claim
import GoSem.ClaimJoined
import GoSem.ClaimMapViews
import Derived.JoinedTies
import Derived.KernelRfl
namespace Go.Proofs.YtlaahcmflibkgaaDoor
/- THE CELL 'sum', in the pinned program and in every row, IS THE sha256 OF THE DUMP (.gsa) THAT YtlaahcmflibkgaaDoorProg.lean LOADS. Nothing in Lean hashes anything: it is a label: what it is worth is what the hold of that sum in a sandbox is worth. -/
noncomputable def Tryd.pinned : Pinned := { name := "ytlaahcmflibkgaadoor", sum := "d5fc82e1e87f9c1957ca0abf32128597de2c195c35b6c3278b6228c357cdee91", checked := Tryd.checked }
namespace Rows
def none {H : Type} : Left H := { results := [], args := [] }

/- WHAT THE LISTED PACKAGE-LEVEL VARIABLES READ AS WHEN THE CALL BEGINS. Each datum BY PROGRAM (the guide's laid-datum.mjs) off the statement by which the dump's own 'gosem.cut.vars' lays the variable. In a bare row this is a premise. The card (YtlaahcmflibkgaaDoorCards.lean) ties it to the program's text. -/
def laid_math_bits_deBruijn64tab {H : Type} : DataW H := .agg [.lit (.int .u8 0), .lit (.int .u8 1), .lit (.int .u8 56), .lit (.int .u8 2), .lit (.int .u8 57), .lit (.int .u8 49), .lit (.int .u8 28), .lit (.int .u8 3), .lit (.int .u8 61), .lit (.int .u8 58), .lit (.int .u8 42), .lit (.int .u8 50), .lit (.int .u8 38), .lit (.int .u8 29), .lit (.int .u8 17), .lit (.int .u8 4), .lit (.int .u8 62), .lit (.int .u8 47), .lit (.int .u8 59), .lit (.int .u8 36), .lit (.int .u8 45), .lit (.int .u8 43), .lit (.int .u8 51), .lit (.int .u8 22), .lit (.int .u8 53), .lit (.int .u8 39), .lit (.int .u8 33), .lit (.int .u8 30), .lit (.int .u8 24), .lit (.int .u8 18), .lit (.int .u8 12), .lit (.int .u8 5), .lit (.int .u8 63), .lit (.int .u8 55), .lit (.int .u8 48), .lit (.int .u8 27), .lit (.int .u8 60), .lit (.int .u8 41), .lit (.int .u8 37), .lit (.int .u8 16), .lit (.int .u8 46), .lit (.int .u8 35), .lit (.int .u8 44), .lit (.int .u8 21), .lit (.int .u8 52), .lit (.int .u8 32), .lit (.int .u8 23), .lit (.int .u8 11), .lit (.int .u8 54), .lit (.int .u8 26), .lit (.int .u8 40), .lit (.int .u8 15), .lit (.int .u8 34), .lit (.int .u8 20), .lit (.int .u8 31), .lit (.int .u8 10), .lit (.int .u8 25), .lit (.int .u8 14), .lit (.int .u8 19), .lit (.int .u8 9), .lit (.int .u8 13), .lit (.int .u8 8), .lit (.int .u8 7), .lit (.int .u8 6)]

/-- 'wittinglaw33.PlausChecks': WHATEVER THE INPUT: true; the input reads as it did. -/
def plausChecksSpec : ChangeSpec := { name := "plausChecks", fn := fun _ => fun
  | [d1, d2] => { results := [.lit (.bool true)], args := [d1, d2] }
  | _ => none }
def plausChecksRow : OpenClaim := { program := "ytlaahcmflibkgaadoor", sum := "d5fc82e1e87f9c1957ca0abf32128597de2c195c35b6c3278b6228c357cdee91", func := "witting/wittinglaw33.PlausChecks", spec := "plausChecks", unfollowed := true, recurses := true, named := ["math/bits.deBruijn64tab"], apart := false, laid := [("math/bits.deBruijn64tab", laid_math_bits_deBruijn64tab)] }
def PlausChecksSaid : Prop := plausChecksRow.holds Tryd.pinned (OpenSpec.ofChange plausChecksSpec)

/-- ITS FALSE NEIGHBOUR: 'it returns false'. Refute it at one input. -/
def plausChecksWrong : ChangeSpec := { name := "plausChecks", fn := fun _ => fun
  | [d1, d2] => { results := [.lit (.bool false)], args := [d1, d2] }
  | _ => none }
def PlausChecksWrongFalsely : Prop := plausChecksRow.holds Tryd.pinned (OpenSpec.ofChange plausChecksWrong)

/-- 'wittinglaw33.PlausBests': WHATEVER THE INPUT: true; the input reads as it did. -/
def plausBestsSpec : ChangeSpec := { name := "plausBests", fn := fun _ => fun
  | [d1, d2, d3] => { results := [.lit (.bool true)], args := [d1, d2, d3] }
  | _ => none }
def plausBestsRow : OpenClaim := { program := "ytlaahcmflibkgaadoor", sum := "d5fc82e1e87f9c1957ca0abf32128597de2c195c35b6c3278b6228c357cdee91", func := "witting/wittinglaw33.PlausBests", spec := "plausBests", unfollowed := true, recurses := true, named := ["math/bits.deBruijn64tab"], apart := false, laid := [("math/bits.deBruijn64tab", laid_math_bits_deBruijn64tab)] }
def PlausBestsSaid : Prop := plausBestsRow.holds Tryd.pinned (OpenSpec.ofChange plausBestsSpec)

/-- ITS FALSE NEIGHBOUR: 'it returns false'. Refute it at one input. -/
def plausBestsWrong : ChangeSpec := { name := "plausBests", fn := fun _ => fun
  | [d1, d2, d3] => { results := [.lit (.bool false)], args := [d1, d2, d3] }
  | _ => none }
def PlausBestsWrongFalsely : Prop := plausBestsRow.holds Tryd.pinned (OpenSpec.ofChange plausBestsWrong)

/-- 'wittinglaw33.PlausBack': WHATEVER THE INPUT: true; the input reads as it did. -/
def plausBackSpec : ChangeSpec := { name := "plausBack", fn := fun _ => fun
  | [d1, d2] => { results := [.lit (.bool true)], args := [d1, d2] }
  | _ => none }
def plausBackRow : OpenClaim := { program := "ytlaahcmflibkgaadoor", sum := "d5fc82e1e87f9c1957ca0abf32128597de2c195c35b6c3278b6228c357cdee91", func := "witting/wittinglaw33.PlausBack", spec := "plausBack", unfollowed := true, recurses := true, named := ["math/bits.deBruijn64tab"], apart := false, laid := [("math/bits.deBruijn64tab", laid_math_bits_deBruijn64tab)] }
def PlausBackSaid : Prop := plausBackRow.holds Tryd.pinned (OpenSpec.ofChange plausBackSpec)

/-- ITS FALSE NEIGHBOUR: 'it returns false'. Refute it at one input. -/
def plausBackWrong : ChangeSpec := { name := "plausBack", fn := fun _ => fun
  | [d1, d2] => { results := [.lit (.bool false)], args := [d1, d2] }
  | _ => none }
def PlausBackWrongFalsely : Prop := plausBackRow.holds Tryd.pinned (OpenSpec.ofChange plausBackWrong)

/-- 'wittinglaw33.PlausWithin': WHATEVER THE INPUT: true; the input reads as it did. -/
def plausWithinSpec : ChangeSpec := { name := "plausWithin", fn := fun _ => fun
  | [d1, d2, d3] => { results := [.lit (.bool true)], args := [d1, d2, d3] }
  | _ => none }
def plausWithinRow : OpenClaim := { program := "ytlaahcmflibkgaadoor", sum := "d5fc82e1e87f9c1957ca0abf32128597de2c195c35b6c3278b6228c357cdee91", func := "witting/wittinglaw33.PlausWithin", spec := "plausWithin", unfollowed := true, recurses := true, named := ["math/bits.deBruijn64tab"], apart := false, laid := [("math/bits.deBruijn64tab", laid_math_bits_deBruijn64tab)] }
def PlausWithinSaid : Prop := plausWithinRow.holds Tryd.pinned (OpenSpec.ofChange plausWithinSpec)

/-- ITS FALSE NEIGHBOUR: 'it returns false'. Refute it at one input. -/
def plausWithinWrong : ChangeSpec := { name := "plausWithin", fn := fun _ => fun
  | [d1, d2, d3] => { results := [.lit (.bool false)], args := [d1, d2, d3] }
  | _ => none }
def PlausWithinWrongFalsely : Prop := plausWithinRow.holds Tryd.pinned (OpenSpec.ofChange plausWithinWrong)

/-- 'wittinglaw33.PlausParts': WHATEVER THE INPUT: true; the input reads as it did. -/
def plausPartsSpec : ChangeSpec := { name := "plausParts", fn := fun _ => fun
  | [d1, d2] => { results := [.lit (.bool true)], args := [d1, d2] }
  | _ => none }
def plausPartsRow : OpenClaim := { program := "ytlaahcmflibkgaadoor", sum := "d5fc82e1e87f9c1957ca0abf32128597de2c195c35b6c3278b6228c357cdee91", func := "witting/wittinglaw33.PlausParts", spec := "plausParts", unfollowed := true, recurses := true, named := ["math/bits.deBruijn64tab"], apart := false, laid := [("math/bits.deBruijn64tab", laid_math_bits_deBruijn64tab)] }
def PlausPartsSaid : Prop := plausPartsRow.holds Tryd.pinned (OpenSpec.ofChange plausPartsSpec)

/-- ITS FALSE NEIGHBOUR: 'it returns false'. Refute it at one input. -/
def plausPartsWrong : ChangeSpec := { name := "plausParts", fn := fun _ => fun
  | [d1, d2] => { results := [.lit (.bool false)], args := [d1, d2] }
  | _ => none }
def PlausPartsWrongFalsely : Prop := plausPartsRow.holds Tryd.pinned (OpenSpec.ofChange plausPartsWrong)

/-- 'wittinglaw33.PlausModels': WHATEVER THE INPUT: true; the input reads as it did. -/
def plausModelsSpec : ChangeSpec := { name := "plausModels", fn := fun _ => fun
  | [d1, d2] => { results := [.lit (.bool true)], args := [d1, d2] }
  | _ => none }
def plausModelsRow : OpenClaim := { program := "ytlaahcmflibkgaadoor", sum := "d5fc82e1e87f9c1957ca0abf32128597de2c195c35b6c3278b6228c357cdee91", func := "witting/wittinglaw33.PlausModels", spec := "plausModels", unfollowed := true, recurses := true, named := ["math/bits.deBruijn64tab"], apart := false, laid := [("math/bits.deBruijn64tab", laid_math_bits_deBruijn64tab)] }
def PlausModelsSaid : Prop := plausModelsRow.holds Tryd.pinned (OpenSpec.ofChange plausModelsSpec)

/-- ITS FALSE NEIGHBOUR: 'it returns false'. Refute it at one input. -/
def plausModelsWrong : ChangeSpec := { name := "plausModels", fn := fun _ => fun
  | [d1, d2] => { results := [.lit (.bool false)], args := [d1, d2] }
  | _ => none }
def PlausModelsWrongFalsely : Prop := plausModelsRow.holds Tryd.pinned (OpenSpec.ofChange plausModelsWrong)

/-- 'wittinglaw33.PlausLogics': WHATEVER THE INPUT: true; the input reads as it did. -/
def plausLogicsSpec : ChangeSpec := { name := "plausLogics", fn := fun _ => fun
  | [d] => { results := [.lit (.bool true)], args := [d] }
  | _ => none }
def plausLogicsRow : OpenClaim := { program := "ytlaahcmflibkgaadoor", sum := "d5fc82e1e87f9c1957ca0abf32128597de2c195c35b6c3278b6228c357cdee91", func := "witting/wittinglaw33.PlausLogics", spec := "plausLogics", unfollowed := true, recurses := true, named := ["math/bits.deBruijn64tab"], apart := false, laid := [("math/bits.deBruijn64tab", laid_math_bits_deBruijn64tab)] }
def PlausLogicsSaid : Prop := plausLogicsRow.holds Tryd.pinned (OpenSpec.ofChange plausLogicsSpec)

/-- ITS FALSE NEIGHBOUR: 'it returns false'. Refute it at one input. -/
def plausLogicsWrong : ChangeSpec := { name := "plausLogics", fn := fun _ => fun
  | [d] => { results := [.lit (.bool false)], args := [d] }
  | _ => none }
def PlausLogicsWrongFalsely : Prop := plausLogicsRow.holds Tryd.pinned (OpenSpec.ofChange plausLogicsWrong)

/- THE SECOND FORM. 'bulk': how many values and letters a reading holds, each counted each time it is reached (what is shared counts as often as it is met; a slice's spare places count too). A statement '..UptoSaid' is the law's where the arguments, and the package variables that the reading takes, are together of bulk at most 1048576: NARROWER than '..Said'. Prove '..Said' where nothing that the law and all that it calls make is longer than what came in: it says more and counts as full. Else prove '..UptoSaid'. A law counts once. -/
mutual
def uptoBulk {H : Type} : DataW H → Nat
  | .lit (.string bytes) => bytes.length + 1
  | .lit _ => 1
  | .nil => 1
  | .ptr d => uptoBulk d + 1
  | .slice elems spare => uptoBulkAll elems + uptoBulkAll spare + 1
  | .agg parts => uptoBulkAll parts + 1
  | .iface _ d => uptoBulk d + 1
  | .map entries => uptoBulkEntries entries + 1
  | .held _ => 1
def uptoBulkAll {H : Type} : List (DataW H) → Nat
  | [] => 0
  | d :: r => uptoBulk d + uptoBulkAll r
def uptoBulkEntries {H : Type} : List (Lit × DataW H) → Nat
  | [] => 0
  | x :: r => uptoBulkEntry x + uptoBulkEntries r
def uptoBulkEntry {H : Type} : Lit × DataW H → Nat
  | (.string bytes, d) => bytes.length + uptoBulk d + 1
  | (_, d) => uptoBulk d + 1
 end
def uptoSmall : (H : Type) → List (DataW H) → Bool := fun _ ds => decide (uptoBulkAll ds ≤ 1048576)
def OpenSpec.upto (s : _root_.Go.ChangeSpec) : _root_.Go.OpenSpec := { _root_.Go.OpenSpec.ofChange s with cond := some uptoSmall }

/-- 'wittinglaw33.PlausChecks', WHERE WHAT IT READS IS OF BULK AT MOST 1048576: true; the input reads as it did. -/
def plausChecksUptoRow : OpenClaim := { program := "ytlaahcmflibkgaadoor", sum := "d5fc82e1e87f9c1957ca0abf32128597de2c195c35b6c3278b6228c357cdee91", func := "witting/wittinglaw33.PlausChecks", spec := "plausChecks", unfollowed := true, recurses := true, named := ["math/bits.deBruijn64tab"], apart := false, laid := [("math/bits.deBruijn64tab", laid_math_bits_deBruijn64tab)], narrowed := true }
def PlausChecksUptoSaid : Prop := plausChecksUptoRow.holds Tryd.pinned (OpenSpec.upto plausChecksSpec)

/-- 'wittinglaw33.PlausBests', WHERE WHAT IT READS IS OF BULK AT MOST 1048576: true; the input reads as it did. -/
def plausBestsUptoRow : OpenClaim := { program := "ytlaahcmflibkgaadoor", sum := "d5fc82e1e87f9c1957ca0abf32128597de2c195c35b6c3278b6228c357cdee91", func := "witting/wittinglaw33.PlausBests", spec := "plausBests", unfollowed := true, recurses := true, named := ["math/bits.deBruijn64tab"], apart := false, laid := [("math/bits.deBruijn64tab", laid_math_bits_deBruijn64tab)], narrowed := true }
def PlausBestsUptoSaid : Prop := plausBestsUptoRow.holds Tryd.pinned (OpenSpec.upto plausBestsSpec)

/-- 'wittinglaw33.PlausBack', WHERE WHAT IT READS IS OF BULK AT MOST 1048576: true; the input reads as it did. -/
def plausBackUptoRow : OpenClaim := { program := "ytlaahcmflibkgaadoor", sum := "d5fc82e1e87f9c1957ca0abf32128597de2c195c35b6c3278b6228c357cdee91", func := "witting/wittinglaw33.PlausBack", spec := "plausBack", unfollowed := true, recurses := true, named := ["math/bits.deBruijn64tab"], apart := false, laid := [("math/bits.deBruijn64tab", laid_math_bits_deBruijn64tab)], narrowed := true }
def PlausBackUptoSaid : Prop := plausBackUptoRow.holds Tryd.pinned (OpenSpec.upto plausBackSpec)

/-- 'wittinglaw33.PlausWithin', WHERE WHAT IT READS IS OF BULK AT MOST 1048576: true; the input reads as it did. -/
def plausWithinUptoRow : OpenClaim := { program := "ytlaahcmflibkgaadoor", sum := "d5fc82e1e87f9c1957ca0abf32128597de2c195c35b6c3278b6228c357cdee91", func := "witting/wittinglaw33.PlausWithin", spec := "plausWithin", unfollowed := true, recurses := true, named := ["math/bits.deBruijn64tab"], apart := false, laid := [("math/bits.deBruijn64tab", laid_math_bits_deBruijn64tab)], narrowed := true }
def PlausWithinUptoSaid : Prop := plausWithinUptoRow.holds Tryd.pinned (OpenSpec.upto plausWithinSpec)

/-- 'wittinglaw33.PlausParts', WHERE WHAT IT READS IS OF BULK AT MOST 1048576: true; the input reads as it did. -/
def plausPartsUptoRow : OpenClaim := { program := "ytlaahcmflibkgaadoor", sum := "d5fc82e1e87f9c1957ca0abf32128597de2c195c35b6c3278b6228c357cdee91", func := "witting/wittinglaw33.PlausParts", spec := "plausParts", unfollowed := true, recurses := true, named := ["math/bits.deBruijn64tab"], apart := false, laid := [("math/bits.deBruijn64tab", laid_math_bits_deBruijn64tab)], narrowed := true }
def PlausPartsUptoSaid : Prop := plausPartsUptoRow.holds Tryd.pinned (OpenSpec.upto plausPartsSpec)

/-- 'wittinglaw33.PlausModels', WHERE WHAT IT READS IS OF BULK AT MOST 1048576: true; the input reads as it did. -/
def plausModelsUptoRow : OpenClaim := { program := "ytlaahcmflibkgaadoor", sum := "d5fc82e1e87f9c1957ca0abf32128597de2c195c35b6c3278b6228c357cdee91", func := "witting/wittinglaw33.PlausModels", spec := "plausModels", unfollowed := true, recurses := true, named := ["math/bits.deBruijn64tab"], apart := false, laid := [("math/bits.deBruijn64tab", laid_math_bits_deBruijn64tab)], narrowed := true }
def PlausModelsUptoSaid : Prop := plausModelsUptoRow.holds Tryd.pinned (OpenSpec.upto plausModelsSpec)

/-- 'wittinglaw33.PlausLogics', WHERE WHAT IT READS IS OF BULK AT MOST 1048576: true; the input reads as it did. -/
def plausLogicsUptoRow : OpenClaim := { program := "ytlaahcmflibkgaadoor", sum := "d5fc82e1e87f9c1957ca0abf32128597de2c195c35b6c3278b6228c357cdee91", func := "witting/wittinglaw33.PlausLogics", spec := "plausLogics", unfollowed := true, recurses := true, named := ["math/bits.deBruijn64tab"], apart := false, laid := [("math/bits.deBruijn64tab", laid_math_bits_deBruijn64tab)], narrowed := true }
def PlausLogicsUptoSaid : Prop := plausLogicsUptoRow.holds Tryd.pinned (OpenSpec.upto plausLogicsSpec)

end Rows
end Go.Proofs.YtlaahcmflibkgaaDoor
