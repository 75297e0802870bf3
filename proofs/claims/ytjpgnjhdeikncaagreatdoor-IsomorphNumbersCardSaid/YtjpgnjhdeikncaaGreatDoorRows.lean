/-
  NARROWER THAN 'FOR EVERY INPUT', by the rows' own cells (each row's printed sentence says how): IsomorphColors: laid · IsomorphChecks: laid · IsomorphCanonical: laid · IsomorphKeeps: laid · IsomorphNumbers: laid · TopQuotientUnique: laid · QuotientBy: laid · QuotientBisimilar: laid · QuotientFrames: laid · QuotientRenamed: laid.
  DERIVED. THE GIVEN ROWS OF THIS SEAT. 10 by the template 'for every input the law returns true; each argument reads behind the call as it read before'; 0 by the template 'total and deterministic' (their statements: YtjpgnjhdeikncaaGreatDoorTotals.lean).
  GIVEN WITH THE SEED: the statements are not yours to turn. If you find one false, say at which input.
  Laid BY PROGRAM, IN A SANDBOX (cutbox-rows.mjs): the forced cells as the released guide's own fill.sh prints them over the translation 84a44c7a6f438ad1… (all of the seat's roots in one cut). By AI agents, Wed Nov 11 2026. No macro, syntax, notation, axiom, sorry.
-/
import Derived.Test.YtjpgnjhdeikncaaGreatDoorChecked
import GoSem.Claim
import GoSem.ClaimJoined
import GoSem.ClaimMapViews
import Derived.JoinedTies
import Derived.KernelRfl
namespace Go.Proofs.YtjpgnjhdeikncaaGreatDoor
/- THE CELL 'sum', in the pinned program and in every row, IS THE sha256 OF THE DUMP (.gsa) THAT YtjpgnjhdeikncaaGreatDoorProg.lean LOADS. Nothing in Lean hashes anything: it is a label: what it is worth is what the hold of that sum in a sandbox is worth. -/
noncomputable def Tryz.pinned : Pinned := { name := "ytjpgnjhdeikncaagreatdoor", sum := "84a44c7a6f438ad11f37ff32da2e03a1b80653bb5d0bd7e441179ecda5ca1a3f", checked := Tryz.checked }
namespace Rows
def none {H : Type} : Left H := { results := [], args := [] }

/- WHAT THE LISTED PACKAGE-LEVEL VARIABLES READ AS WHEN THE CALL BEGINS. Each datum BY PROGRAM (the guide's laid-datum.mjs) off the statement by which the dump's own 'gosem.cut.vars' lays the variable. In a bare row this is a premise. The card (YtjpgnjhdeikncaaGreatDoorCards.lean) ties it to the program's text. -/
def laid_math_bits_deBruijn64tab {H : Type} : DataW H := .agg [.lit (.int .u8 0), .lit (.int .u8 1), .lit (.int .u8 56), .lit (.int .u8 2), .lit (.int .u8 57), .lit (.int .u8 49), .lit (.int .u8 28), .lit (.int .u8 3), .lit (.int .u8 61), .lit (.int .u8 58), .lit (.int .u8 42), .lit (.int .u8 50), .lit (.int .u8 38), .lit (.int .u8 29), .lit (.int .u8 17), .lit (.int .u8 4), .lit (.int .u8 62), .lit (.int .u8 47), .lit (.int .u8 59), .lit (.int .u8 36), .lit (.int .u8 45), .lit (.int .u8 43), .lit (.int .u8 51), .lit (.int .u8 22), .lit (.int .u8 53), .lit (.int .u8 39), .lit (.int .u8 33), .lit (.int .u8 30), .lit (.int .u8 24), .lit (.int .u8 18), .lit (.int .u8 12), .lit (.int .u8 5), .lit (.int .u8 63), .lit (.int .u8 55), .lit (.int .u8 48), .lit (.int .u8 27), .lit (.int .u8 60), .lit (.int .u8 41), .lit (.int .u8 37), .lit (.int .u8 16), .lit (.int .u8 46), .lit (.int .u8 35), .lit (.int .u8 44), .lit (.int .u8 21), .lit (.int .u8 52), .lit (.int .u8 32), .lit (.int .u8 23), .lit (.int .u8 11), .lit (.int .u8 54), .lit (.int .u8 26), .lit (.int .u8 40), .lit (.int .u8 15), .lit (.int .u8 34), .lit (.int .u8 20), .lit (.int .u8 31), .lit (.int .u8 10), .lit (.int .u8 25), .lit (.int .u8 14), .lit (.int .u8 19), .lit (.int .u8 9), .lit (.int .u8 13), .lit (.int .u8 8), .lit (.int .u8 7), .lit (.int .u8 6)]
def laid_math_bits_deBruijn32tab {H : Type} : DataW H := .agg [.lit (.int .u8 0), .lit (.int .u8 1), .lit (.int .u8 28), .lit (.int .u8 2), .lit (.int .u8 29), .lit (.int .u8 14), .lit (.int .u8 24), .lit (.int .u8 3), .lit (.int .u8 30), .lit (.int .u8 22), .lit (.int .u8 20), .lit (.int .u8 15), .lit (.int .u8 25), .lit (.int .u8 17), .lit (.int .u8 4), .lit (.int .u8 8), .lit (.int .u8 31), .lit (.int .u8 27), .lit (.int .u8 13), .lit (.int .u8 23), .lit (.int .u8 21), .lit (.int .u8 19), .lit (.int .u8 16), .lit (.int .u8 7), .lit (.int .u8 26), .lit (.int .u8 12), .lit (.int .u8 18), .lit (.int .u8 6), .lit (.int .u8 11), .lit (.int .u8 5), .lit (.int .u8 10), .lit (.int .u8 9)]
def laid_internal_strconv_uint64pow10 {H : Type} : DataW H := .agg [.lit (.int .u64 1), .lit (.int .u64 10), .lit (.int .u64 100), .lit (.int .u64 1000), .lit (.int .u64 10000), .lit (.int .u64 100000), .lit (.int .u64 1000000), .lit (.int .u64 10000000), .lit (.int .u64 100000000), .lit (.int .u64 1000000000), .lit (.int .u64 10000000000), .lit (.int .u64 100000000000), .lit (.int .u64 1000000000000), .lit (.int .u64 10000000000000), .lit (.int .u64 100000000000000), .lit (.int .u64 1000000000000000), .lit (.int .u64 10000000000000000), .lit (.int .u64 100000000000000000), .lit (.int .u64 1000000000000000000), .lit (.int .u64 10000000000000000000)]

/-- 'wittinglaw16.IsomorphColors': WHATEVER THE INPUT: true; the input reads as it did. -/
def isomorphColorsSpec : ChangeSpec := { name := "isomorphColors", fn := fun _ => fun
  | [d] => { results := [.lit (.bool true)], args := [d] }
  | _ => none }
def isomorphColorsRow : OpenClaim := { program := "ytjpgnjhdeikncaagreatdoor", sum := "84a44c7a6f438ad11f37ff32da2e03a1b80653bb5d0bd7e441179ecda5ca1a3f", func := "witting/wittinglaw16.IsomorphColors", spec := "isomorphColors", unfollowed := true, recurses := true, named := ["math/bits.deBruijn64tab"], plainKeys := false, apart := false, laid := [("math/bits.deBruijn64tab", laid_math_bits_deBruijn64tab)] }
def IsomorphColorsSaid : Prop := isomorphColorsRow.holds Tryz.pinned (OpenSpec.ofChange isomorphColorsSpec)

/-- ITS FALSE NEIGHBOUR: 'it returns false'. Refute it at one input. -/
def isomorphColorsWrong : ChangeSpec := { name := "isomorphColors", fn := fun _ => fun
  | [d] => { results := [.lit (.bool false)], args := [d] }
  | _ => none }
def IsomorphColorsWrongFalsely : Prop := isomorphColorsRow.holds Tryz.pinned (OpenSpec.ofChange isomorphColorsWrong)

/-- 'wittinglaw16.IsomorphChecks': WHATEVER THE INPUT: true; the input reads as it did. -/
def isomorphChecksSpec : ChangeSpec := { name := "isomorphChecks", fn := fun _ => fun
  | [d1, d2, d3] => { results := [.lit (.bool true)], args := [d1, d2, d3] }
  | _ => none }
def isomorphChecksRow : OpenClaim := { program := "ytjpgnjhdeikncaagreatdoor", sum := "84a44c7a6f438ad11f37ff32da2e03a1b80653bb5d0bd7e441179ecda5ca1a3f", func := "witting/wittinglaw16.IsomorphChecks", spec := "isomorphChecks", unfollowed := true, recurses := true, named := ["math/bits.deBruijn64tab"], plainKeys := false, apart := false, laid := [("math/bits.deBruijn64tab", laid_math_bits_deBruijn64tab)] }
def IsomorphChecksSaid : Prop := isomorphChecksRow.holds Tryz.pinned (OpenSpec.ofChange isomorphChecksSpec)

/-- ITS FALSE NEIGHBOUR: 'it returns false'. Refute it at one input. -/
def isomorphChecksWrong : ChangeSpec := { name := "isomorphChecks", fn := fun _ => fun
  | [d1, d2, d3] => { results := [.lit (.bool false)], args := [d1, d2, d3] }
  | _ => none }
def IsomorphChecksWrongFalsely : Prop := isomorphChecksRow.holds Tryz.pinned (OpenSpec.ofChange isomorphChecksWrong)

/-- 'wittinglaw16.IsomorphCanonical': WHATEVER THE INPUT: true; the input reads as it did. -/
def isomorphCanonicalSpec : ChangeSpec := { name := "isomorphCanonical", fn := fun _ => fun
  | [d1, d2] => { results := [.lit (.bool true)], args := [d1, d2] }
  | _ => none }
def isomorphCanonicalRow : OpenClaim := { program := "ytjpgnjhdeikncaagreatdoor", sum := "84a44c7a6f438ad11f37ff32da2e03a1b80653bb5d0bd7e441179ecda5ca1a3f", func := "witting/wittinglaw16.IsomorphCanonical", spec := "isomorphCanonical", unfollowed := true, recurses := true, named := ["math/bits.deBruijn64tab"], plainKeys := false, apart := false, laid := [("math/bits.deBruijn64tab", laid_math_bits_deBruijn64tab)] }
def IsomorphCanonicalSaid : Prop := isomorphCanonicalRow.holds Tryz.pinned (OpenSpec.ofChange isomorphCanonicalSpec)

/-- ITS FALSE NEIGHBOUR: 'it returns false'. Refute it at one input. -/
def isomorphCanonicalWrong : ChangeSpec := { name := "isomorphCanonical", fn := fun _ => fun
  | [d1, d2] => { results := [.lit (.bool false)], args := [d1, d2] }
  | _ => none }
def IsomorphCanonicalWrongFalsely : Prop := isomorphCanonicalRow.holds Tryz.pinned (OpenSpec.ofChange isomorphCanonicalWrong)

/-- 'wittinglaw16.IsomorphKeeps': WHATEVER THE INPUT: true; the input reads as it did. -/
def isomorphKeepsSpec : ChangeSpec := { name := "isomorphKeeps", fn := fun _ => fun
  | [d1, d2] => { results := [.lit (.bool true)], args := [d1, d2] }
  | _ => none }
def isomorphKeepsRow : OpenClaim := { program := "ytjpgnjhdeikncaagreatdoor", sum := "84a44c7a6f438ad11f37ff32da2e03a1b80653bb5d0bd7e441179ecda5ca1a3f", func := "witting/wittinglaw16.IsomorphKeeps", spec := "isomorphKeeps", unfollowed := true, recurses := true, named := ["math/bits.deBruijn64tab"], plainKeys := false, apart := false, laid := [("math/bits.deBruijn64tab", laid_math_bits_deBruijn64tab)] }
def IsomorphKeepsSaid : Prop := isomorphKeepsRow.holds Tryz.pinned (OpenSpec.ofChange isomorphKeepsSpec)

/-- ITS FALSE NEIGHBOUR: 'it returns false'. Refute it at one input. -/
def isomorphKeepsWrong : ChangeSpec := { name := "isomorphKeeps", fn := fun _ => fun
  | [d1, d2] => { results := [.lit (.bool false)], args := [d1, d2] }
  | _ => none }
def IsomorphKeepsWrongFalsely : Prop := isomorphKeepsRow.holds Tryz.pinned (OpenSpec.ofChange isomorphKeepsWrong)

/-- 'wittinglaw16.IsomorphNumbers': WHATEVER THE INPUT: true; the input reads as it did. -/
def isomorphNumbersSpec : ChangeSpec := { name := "isomorphNumbers", fn := fun _ => fun
  | [d1, d2, d3] => { results := [.lit (.bool true)], args := [d1, d2, d3] }
  | _ => none }
def isomorphNumbersRow : OpenClaim := { program := "ytjpgnjhdeikncaagreatdoor", sum := "84a44c7a6f438ad11f37ff32da2e03a1b80653bb5d0bd7e441179ecda5ca1a3f", func := "witting/wittinglaw16.IsomorphNumbers", spec := "isomorphNumbers", unfollowed := true, recurses := true, named := ["math/bits.deBruijn64tab"], plainKeys := false, apart := false, laid := [("math/bits.deBruijn64tab", laid_math_bits_deBruijn64tab)] }
def IsomorphNumbersSaid : Prop := isomorphNumbersRow.holds Tryz.pinned (OpenSpec.ofChange isomorphNumbersSpec)

/-- ITS FALSE NEIGHBOUR: 'it returns false'. Refute it at one input. -/
def isomorphNumbersWrong : ChangeSpec := { name := "isomorphNumbers", fn := fun _ => fun
  | [d1, d2, d3] => { results := [.lit (.bool false)], args := [d1, d2, d3] }
  | _ => none }
def IsomorphNumbersWrongFalsely : Prop := isomorphNumbersRow.holds Tryz.pinned (OpenSpec.ofChange isomorphNumbersWrong)

/-- 'wittingtop.TopQuotientUnique': WHATEVER THE INPUT: true; the input reads as it did. -/
def topQuotientUniqueSpec : ChangeSpec := { name := "topQuotientUnique", fn := fun _ => fun
  | [d1, d2] => { results := [.lit (.bool true)], args := [d1, d2] }
  | _ => none }
def topQuotientUniqueRow : OpenClaim := { program := "ytjpgnjhdeikncaagreatdoor", sum := "84a44c7a6f438ad11f37ff32da2e03a1b80653bb5d0bd7e441179ecda5ca1a3f", func := "witting/wittingtop.TopQuotientUnique", spec := "topQuotientUnique", unfollowed := true, recurses := true, named := ["math/bits.deBruijn64tab", "internal/strconv.uint64pow10", "math/bits.deBruijn32tab"], plainKeys := false, apart := false, laid := [("math/bits.deBruijn32tab", laid_math_bits_deBruijn32tab), ("math/bits.deBruijn64tab", laid_math_bits_deBruijn64tab), ("internal/strconv.uint64pow10", laid_internal_strconv_uint64pow10)] }
def TopQuotientUniqueSaid : Prop := topQuotientUniqueRow.holds Tryz.pinned (OpenSpec.ofChange topQuotientUniqueSpec)

/-- ITS FALSE NEIGHBOUR: 'it returns false'. Refute it at one input. -/
def topQuotientUniqueWrong : ChangeSpec := { name := "topQuotientUnique", fn := fun _ => fun
  | [d1, d2] => { results := [.lit (.bool false)], args := [d1, d2] }
  | _ => none }
def TopQuotientUniqueWrongFalsely : Prop := topQuotientUniqueRow.holds Tryz.pinned (OpenSpec.ofChange topQuotientUniqueWrong)

/-- 'wittinglaw20.QuotientBy': WHATEVER THE INPUT: true; the input reads as it did. -/
def quotientBySpec : ChangeSpec := { name := "quotientBy", fn := fun _ => fun
  | [d1, d2] => { results := [.lit (.bool true)], args := [d1, d2] }
  | _ => none }
def quotientByRow : OpenClaim := { program := "ytjpgnjhdeikncaagreatdoor", sum := "84a44c7a6f438ad11f37ff32da2e03a1b80653bb5d0bd7e441179ecda5ca1a3f", func := "witting/wittinglaw20.QuotientBy", spec := "quotientBy", unfollowed := true, recurses := true, named := ["math/bits.deBruijn64tab", "internal/strconv.uint64pow10", "math/bits.deBruijn32tab"], plainKeys := false, apart := false, laid := [("math/bits.deBruijn32tab", laid_math_bits_deBruijn32tab), ("math/bits.deBruijn64tab", laid_math_bits_deBruijn64tab), ("internal/strconv.uint64pow10", laid_internal_strconv_uint64pow10)] }
def QuotientBySaid : Prop := quotientByRow.holds Tryz.pinned (OpenSpec.ofChange quotientBySpec)

/-- ITS FALSE NEIGHBOUR: 'it returns false'. Refute it at one input. -/
def quotientByWrong : ChangeSpec := { name := "quotientBy", fn := fun _ => fun
  | [d1, d2] => { results := [.lit (.bool false)], args := [d1, d2] }
  | _ => none }
def QuotientByWrongFalsely : Prop := quotientByRow.holds Tryz.pinned (OpenSpec.ofChange quotientByWrong)

/-- 'wittinglaw20.QuotientBisimilar': WHATEVER THE INPUT: true; the input reads as it did. -/
def quotientBisimilarSpec : ChangeSpec := { name := "quotientBisimilar", fn := fun _ => fun
  | [d] => { results := [.lit (.bool true)], args := [d] }
  | _ => none }
def quotientBisimilarRow : OpenClaim := { program := "ytjpgnjhdeikncaagreatdoor", sum := "84a44c7a6f438ad11f37ff32da2e03a1b80653bb5d0bd7e441179ecda5ca1a3f", func := "witting/wittinglaw20.QuotientBisimilar", spec := "quotientBisimilar", unfollowed := true, recurses := true, named := ["math/bits.deBruijn64tab", "internal/strconv.uint64pow10", "math/bits.deBruijn32tab"], plainKeys := false, apart := false, laid := [("math/bits.deBruijn32tab", laid_math_bits_deBruijn32tab), ("math/bits.deBruijn64tab", laid_math_bits_deBruijn64tab), ("internal/strconv.uint64pow10", laid_internal_strconv_uint64pow10)] }
def QuotientBisimilarSaid : Prop := quotientBisimilarRow.holds Tryz.pinned (OpenSpec.ofChange quotientBisimilarSpec)

/-- ITS FALSE NEIGHBOUR: 'it returns false'. Refute it at one input. -/
def quotientBisimilarWrong : ChangeSpec := { name := "quotientBisimilar", fn := fun _ => fun
  | [d] => { results := [.lit (.bool false)], args := [d] }
  | _ => none }
def QuotientBisimilarWrongFalsely : Prop := quotientBisimilarRow.holds Tryz.pinned (OpenSpec.ofChange quotientBisimilarWrong)

/-- 'wittinglaw20.QuotientFrames': WHATEVER THE INPUT: true; the input reads as it did. -/
def quotientFramesSpec : ChangeSpec := { name := "quotientFrames", fn := fun _ => fun
  | [d1, d2] => { results := [.lit (.bool true)], args := [d1, d2] }
  | _ => none }
def quotientFramesRow : OpenClaim := { program := "ytjpgnjhdeikncaagreatdoor", sum := "84a44c7a6f438ad11f37ff32da2e03a1b80653bb5d0bd7e441179ecda5ca1a3f", func := "witting/wittinglaw20.QuotientFrames", spec := "quotientFrames", unfollowed := true, recurses := true, named := ["math/bits.deBruijn64tab", "internal/strconv.uint64pow10", "math/bits.deBruijn32tab"], plainKeys := false, apart := false, laid := [("math/bits.deBruijn32tab", laid_math_bits_deBruijn32tab), ("math/bits.deBruijn64tab", laid_math_bits_deBruijn64tab), ("internal/strconv.uint64pow10", laid_internal_strconv_uint64pow10)] }
def QuotientFramesSaid : Prop := quotientFramesRow.holds Tryz.pinned (OpenSpec.ofChange quotientFramesSpec)

/-- ITS FALSE NEIGHBOUR: 'it returns false'. Refute it at one input. -/
def quotientFramesWrong : ChangeSpec := { name := "quotientFrames", fn := fun _ => fun
  | [d1, d2] => { results := [.lit (.bool false)], args := [d1, d2] }
  | _ => none }
def QuotientFramesWrongFalsely : Prop := quotientFramesRow.holds Tryz.pinned (OpenSpec.ofChange quotientFramesWrong)

/-- 'wittinglaw20.QuotientRenamed': WHATEVER THE INPUT: true; the input reads as it did. -/
def quotientRenamedSpec : ChangeSpec := { name := "quotientRenamed", fn := fun _ => fun
  | [d1, d2, d3] => { results := [.lit (.bool true)], args := [d1, d2, d3] }
  | _ => none }
def quotientRenamedRow : OpenClaim := { program := "ytjpgnjhdeikncaagreatdoor", sum := "84a44c7a6f438ad11f37ff32da2e03a1b80653bb5d0bd7e441179ecda5ca1a3f", func := "witting/wittinglaw20.QuotientRenamed", spec := "quotientRenamed", unfollowed := true, recurses := true, named := ["math/bits.deBruijn64tab", "internal/strconv.uint64pow10", "math/bits.deBruijn32tab"], plainKeys := false, apart := false, laid := [("math/bits.deBruijn32tab", laid_math_bits_deBruijn32tab), ("math/bits.deBruijn64tab", laid_math_bits_deBruijn64tab), ("internal/strconv.uint64pow10", laid_internal_strconv_uint64pow10)] }
def QuotientRenamedSaid : Prop := quotientRenamedRow.holds Tryz.pinned (OpenSpec.ofChange quotientRenamedSpec)

/-- ITS FALSE NEIGHBOUR: 'it returns false'. Refute it at one input. -/
def quotientRenamedWrong : ChangeSpec := { name := "quotientRenamed", fn := fun _ => fun
  | [d1, d2, d3] => { results := [.lit (.bool false)], args := [d1, d2, d3] }
  | _ => none }
def QuotientRenamedWrongFalsely : Prop := quotientRenamedRow.holds Tryz.pinned (OpenSpec.ofChange quotientRenamedWrong)

/- THE SECOND FORM. 'bulk': how many values and letters a reading holds, each counted each time it is reached (what is shared counts as often as it is met; a slice's spare places count too). A statement '..UptoSaid' is the law's where the arguments, and the package variables that the reading takes, are together of bulk at most 1048576: NARROWER than '..Said'. Prove '..Said' where nothing that the law and all that it calls make is longer than what came in: it says more and counts as full. Else prove '..UptoSaid'. A law counts once. -/
mutual
def uptoBulk {H : Type} : DataW H → Nat
  | .lit (.string bytes) => bytes.length + 1
  | .lit _ => 1
  | .nil => 1
  | .ptr d => uptoBulk d + 1
  | .slice elems spare => uptoBulkAll elems + uptoBulkAll spare + 1
  | .agg parts => uptoBulkAll parts + 1
  | .iface _ d => uptoBulk d + 1
  | .map entries => uptoBulkEntries entries + 1
  | .held _ => 1
def uptoBulkAll {H : Type} : List (DataW H) → Nat
  | [] => 0
  | d :: r => uptoBulk d + uptoBulkAll r
def uptoBulkEntries {H : Type} : List (Lit × DataW H) → Nat
  | [] => 0
  | x :: r => uptoBulkEntry x + uptoBulkEntries r
def uptoBulkEntry {H : Type} : Lit × DataW H → Nat
  | (.string bytes, d) => bytes.length + uptoBulk d + 1
  | (_, d) => uptoBulk d + 1
 end
def uptoSmall : (H : Type) → List (DataW H) → Bool := fun _ ds => decide (uptoBulkAll ds ≤ 1048576)
def OpenSpec.upto (s : _root_.Go.ChangeSpec) : _root_.Go.OpenSpec := { _root_.Go.OpenSpec.ofChange s with cond := some uptoSmall }

/-- 'wittinglaw16.IsomorphColors', WHERE WHAT IT READS IS OF BULK AT MOST 1048576: true; the input reads as it did. -/
def isomorphColorsUptoRow : OpenClaim := { program := "ytjpgnjhdeikncaagreatdoor", sum := "84a44c7a6f438ad11f37ff32da2e03a1b80653bb5d0bd7e441179ecda5ca1a3f", func := "witting/wittinglaw16.IsomorphColors", spec := "isomorphColors", unfollowed := true, recurses := true, named := ["math/bits.deBruijn64tab"], plainKeys := false, apart := false, laid := [("math/bits.deBruijn64tab", laid_math_bits_deBruijn64tab)], narrowed := true }
def IsomorphColorsUptoSaid : Prop := isomorphColorsUptoRow.holds Tryz.pinned (OpenSpec.upto isomorphColorsSpec)

/-- 'wittinglaw16.IsomorphChecks', WHERE WHAT IT READS IS OF BULK AT MOST 1048576: true; the input reads as it did. -/
def isomorphChecksUptoRow : OpenClaim := { program := "ytjpgnjhdeikncaagreatdoor", sum := "84a44c7a6f438ad11f37ff32da2e03a1b80653bb5d0bd7e441179ecda5ca1a3f", func := "witting/wittinglaw16.IsomorphChecks", spec := "isomorphChecks", unfollowed := true, recurses := true, named := ["math/bits.deBruijn64tab"], plainKeys := false, apart := false, laid := [("math/bits.deBruijn64tab", laid_math_bits_deBruijn64tab)], narrowed := true }
def IsomorphChecksUptoSaid : Prop := isomorphChecksUptoRow.holds Tryz.pinned (OpenSpec.upto isomorphChecksSpec)

/-- 'wittinglaw16.IsomorphCanonical', WHERE WHAT IT READS IS OF BULK AT MOST 1048576: true; the input reads as it did. -/
def isomorphCanonicalUptoRow : OpenClaim := { program := "ytjpgnjhdeikncaagreatdoor", sum := "84a44c7a6f438ad11f37ff32da2e03a1b80653bb5d0bd7e441179ecda5ca1a3f", func := "witting/wittinglaw16.IsomorphCanonical", spec := "isomorphCanonical", unfollowed := true, recurses := true, named := ["math/bits.deBruijn64tab"], plainKeys := false, apart := false, laid := [("math/bits.deBruijn64tab", laid_math_bits_deBruijn64tab)], narrowed := true }
def IsomorphCanonicalUptoSaid : Prop := isomorphCanonicalUptoRow.holds Tryz.pinned (OpenSpec.upto isomorphCanonicalSpec)

/-- 'wittinglaw16.IsomorphKeeps', WHERE WHAT IT READS IS OF BULK AT MOST 1048576: true; the input reads as it did. -/
def isomorphKeepsUptoRow : OpenClaim := { program := "ytjpgnjhdeikncaagreatdoor", sum := "84a44c7a6f438ad11f37ff32da2e03a1b80653bb5d0bd7e441179ecda5ca1a3f", func := "witting/wittinglaw16.IsomorphKeeps", spec := "isomorphKeeps", unfollowed := true, recurses := true, named := ["math/bits.deBruijn64tab"], plainKeys := false, apart := false, laid := [("math/bits.deBruijn64tab", laid_math_bits_deBruijn64tab)], narrowed := true }
def IsomorphKeepsUptoSaid : Prop := isomorphKeepsUptoRow.holds Tryz.pinned (OpenSpec.upto isomorphKeepsSpec)

/-- 'wittinglaw16.IsomorphNumbers', WHERE WHAT IT READS IS OF BULK AT MOST 1048576: true; the input reads as it did. -/
def isomorphNumbersUptoRow : OpenClaim := { program := "ytjpgnjhdeikncaagreatdoor", sum := "84a44c7a6f438ad11f37ff32da2e03a1b80653bb5d0bd7e441179ecda5ca1a3f", func := "witting/wittinglaw16.IsomorphNumbers", spec := "isomorphNumbers", unfollowed := true, recurses := true, named := ["math/bits.deBruijn64tab"], plainKeys := false, apart := false, laid := [("math/bits.deBruijn64tab", laid_math_bits_deBruijn64tab)], narrowed := true }
def IsomorphNumbersUptoSaid : Prop := isomorphNumbersUptoRow.holds Tryz.pinned (OpenSpec.upto isomorphNumbersSpec)

/-- 'wittingtop.TopQuotientUnique', WHERE WHAT IT READS IS OF BULK AT MOST 1048576: true; the input reads as it did. -/
def topQuotientUniqueUptoRow : OpenClaim := { program := "ytjpgnjhdeikncaagreatdoor", sum := "84a44c7a6f438ad11f37ff32da2e03a1b80653bb5d0bd7e441179ecda5ca1a3f", func := "witting/wittingtop.TopQuotientUnique", spec := "topQuotientUnique", unfollowed := true, recurses := true, named := ["math/bits.deBruijn64tab", "internal/strconv.uint64pow10", "math/bits.deBruijn32tab"], plainKeys := false, apart := false, laid := [("math/bits.deBruijn32tab", laid_math_bits_deBruijn32tab), ("math/bits.deBruijn64tab", laid_math_bits_deBruijn64tab), ("internal/strconv.uint64pow10", laid_internal_strconv_uint64pow10)], narrowed := true }
def TopQuotientUniqueUptoSaid : Prop := topQuotientUniqueUptoRow.holds Tryz.pinned (OpenSpec.upto topQuotientUniqueSpec)

/-- 'wittinglaw20.QuotientBy', WHERE WHAT IT READS IS OF BULK AT MOST 1048576: true; the input reads as it did. -/
def quotientByUptoRow : OpenClaim := { program := "ytjpgnjhdeikncaagreatdoor", sum := "84a44c7a6f438ad11f37ff32da2e03a1b80653bb5d0bd7e441179ecda5ca1a3f", func := "witting/wittinglaw20.QuotientBy", spec := "quotientBy", unfollowed := true, recurses := true, named := ["math/bits.deBruijn64tab", "internal/strconv.uint64pow10", "math/bits.deBruijn32tab"], plainKeys := false, apart := false, laid := [("math/bits.deBruijn32tab", laid_math_bits_deBruijn32tab), ("math/bits.deBruijn64tab", laid_math_bits_deBruijn64tab), ("internal/strconv.uint64pow10", laid_internal_strconv_uint64pow10)], narrowed := true }
def QuotientByUptoSaid : Prop := quotientByUptoRow.holds Tryz.pinned (OpenSpec.upto quotientBySpec)

/-- 'wittinglaw20.QuotientBisimilar', WHERE WHAT IT READS IS OF BULK AT MOST 1048576: true; the input reads as it did. -/
def quotientBisimilarUptoRow : OpenClaim := { program := "ytjpgnjhdeikncaagreatdoor", sum := "84a44c7a6f438ad11f37ff32da2e03a1b80653bb5d0bd7e441179ecda5ca1a3f", func := "witting/wittinglaw20.QuotientBisimilar", spec := "quotientBisimilar", unfollowed := true, recurses := true, named := ["math/bits.deBruijn64tab", "internal/strconv.uint64pow10", "math/bits.deBruijn32tab"], plainKeys := false, apart := false, laid := [("math/bits.deBruijn32tab", laid_math_bits_deBruijn32tab), ("math/bits.deBruijn64tab", laid_math_bits_deBruijn64tab), ("internal/strconv.uint64pow10", laid_internal_strconv_uint64pow10)], narrowed := true }
def QuotientBisimilarUptoSaid : Prop := quotientBisimilarUptoRow.holds Tryz.pinned (OpenSpec.upto quotientBisimilarSpec)

/-- 'wittinglaw20.QuotientFrames', WHERE WHAT IT READS IS OF BULK AT MOST 1048576: true; the input reads as it did. -/
def quotientFramesUptoRow : OpenClaim := { program := "ytjpgnjhdeikncaagreatdoor", sum := "84a44c7a6f438ad11f37ff32da2e03a1b80653bb5d0bd7e441179ecda5ca1a3f", func := "witting/wittinglaw20.QuotientFrames", spec := "quotientFrames", unfollowed := true, recurses := true, named := ["math/bits.deBruijn64tab", "internal/strconv.uint64pow10", "math/bits.deBruijn32tab"], plainKeys := false, apart := false, laid := [("math/bits.deBruijn32tab", laid_math_bits_deBruijn32tab), ("math/bits.deBruijn64tab", laid_math_bits_deBruijn64tab), ("internal/strconv.uint64pow10", laid_internal_strconv_uint64pow10)], narrowed := true }
def QuotientFramesUptoSaid : Prop := quotientFramesUptoRow.holds Tryz.pinned (OpenSpec.upto quotientFramesSpec)

/-- 'wittinglaw20.QuotientRenamed', WHERE WHAT IT READS IS OF BULK AT MOST 1048576: true; the input reads as it did. -/
def quotientRenamedUptoRow : OpenClaim := { program := "ytjpgnjhdeikncaagreatdoor", sum := "84a44c7a6f438ad11f37ff32da2e03a1b80653bb5d0bd7e441179ecda5ca1a3f", func := "witting/wittinglaw20.QuotientRenamed", spec := "quotientRenamed", unfollowed := true, recurses := true, named := ["math/bits.deBruijn64tab", "internal/strconv.uint64pow10", "math/bits.deBruijn32tab"], plainKeys := false, apart := false, laid := [("math/bits.deBruijn32tab", laid_math_bits_deBruijn32tab), ("math/bits.deBruijn64tab", laid_math_bits_deBruijn64tab), ("internal/strconv.uint64pow10", laid_internal_strconv_uint64pow10)], narrowed := true }
def QuotientRenamedUptoSaid : Prop := quotientRenamedUptoRow.holds Tryz.pinned (OpenSpec.upto quotientRenamedSpec)

end Rows
end Go.Proofs.YtjpgnjhdeikncaaGreatDoor
