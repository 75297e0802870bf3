/-
  NARROWER THAN 'FOR EVERY INPUT', by the rows' own cells (each row's printed sentence says how): TopQuotientUnique: laid · QuotientBy: laid · QuotientBisimilar: laid · QuotientFrames: laid · QuotientRenamed: laid · QuotientPoints: laid · QuotientSame: laid · QuotientDecides: laid · QuotientTruth: laid · TopCanonicalTells: laid.
  DERIVED. THE GIVEN ROWS OF THIS SEAT. 10 by the template 'for every input the law returns true; each argument reads behind the call as it read before'; 0 by the template 'total and deterministic' (their statements: YtjehkdhnhfghiaaGreatDoorTotals.lean).
  GIVEN WITH THE SEED: the statements are not yours to turn. If you find one false, say at which input.
  Laid BY PROGRAM, IN A SANDBOX (cutbox-rows.mjs): the forced cells as the released guide's own fill.sh prints them over the translation 92272c2480fdbea9… (all of the seat's roots in one cut). By AI agents, Wed Nov 11 2026. No macro, syntax, notation, axiom, sorry.
-/
import Derived.Test.YtjehkdhnhfghiaaGreatDoorChecked
import GoSem.Claim
import GoSem.ClaimJoined
import GoSem.ClaimMapViews
import Derived.JoinedTies
import Derived.KernelRfl
namespace Go.Proofs.YtjehkdhnhfghiaaGreatDoor
/- THE CELL 'sum', in the pinned program and in every row, IS THE sha256 OF THE DUMP (.gsa) THAT YtjehkdhnhfghiaaGreatDoorProg.lean LOADS. Nothing in Lean hashes anything: it is a label: what it is worth is what the hold of that sum in a sandbox is worth. -/
noncomputable def Tryz.pinned : Pinned := { name := "ytjehkdhnhfghiaagreatdoor", sum := "92272c2480fdbea981d69f4b733e857b1f91b8d01f8cac9c137acd8318427887", checked := Tryz.checked }
namespace Rows
def none {H : Type} : Left H := { results := [], args := [] }

/- WHAT THE LISTED PACKAGE-LEVEL VARIABLES READ AS WHEN THE CALL BEGINS. Each datum BY PROGRAM (the guide's laid-datum.mjs) off the statement by which the dump's own 'gosem.cut.vars' lays the variable. In a bare row this is a premise. The card (YtjehkdhnhfghiaaGreatDoorCards.lean) ties it to the program's text. -/
def laid_math_bits_deBruijn32tab {H : Type} : DataW H := .agg [.lit (.int .u8 0), .lit (.int .u8 1), .lit (.int .u8 28), .lit (.int .u8 2), .lit (.int .u8 29), .lit (.int .u8 14), .lit (.int .u8 24), .lit (.int .u8 3), .lit (.int .u8 30), .lit (.int .u8 22), .lit (.int .u8 20), .lit (.int .u8 15), .lit (.int .u8 25), .lit (.int .u8 17), .lit (.int .u8 4), .lit (.int .u8 8), .lit (.int .u8 31), .lit (.int .u8 27), .lit (.int .u8 13), .lit (.int .u8 23), .lit (.int .u8 21), .lit (.int .u8 19), .lit (.int .u8 16), .lit (.int .u8 7), .lit (.int .u8 26), .lit (.int .u8 12), .lit (.int .u8 18), .lit (.int .u8 6), .lit (.int .u8 11), .lit (.int .u8 5), .lit (.int .u8 10), .lit (.int .u8 9)]
def laid_math_bits_deBruijn64tab {H : Type} : DataW H := .agg [.lit (.int .u8 0), .lit (.int .u8 1), .lit (.int .u8 56), .lit (.int .u8 2), .lit (.int .u8 57), .lit (.int .u8 49), .lit (.int .u8 28), .lit (.int .u8 3), .lit (.int .u8 61), .lit (.int .u8 58), .lit (.int .u8 42), .lit (.int .u8 50), .lit (.int .u8 38), .lit (.int .u8 29), .lit (.int .u8 17), .lit (.int .u8 4), .lit (.int .u8 62), .lit (.int .u8 47), .lit (.int .u8 59), .lit (.int .u8 36), .lit (.int .u8 45), .lit (.int .u8 43), .lit (.int .u8 51), .lit (.int .u8 22), .lit (.int .u8 53), .lit (.int .u8 39), .lit (.int .u8 33), .lit (.int .u8 30), .lit (.int .u8 24), .lit (.int .u8 18), .lit (.int .u8 12), .lit (.int .u8 5), .lit (.int .u8 63), .lit (.int .u8 55), .lit (.int .u8 48), .lit (.int .u8 27), .lit (.int .u8 60), .lit (.int .u8 41), .lit (.int .u8 37), .lit (.int .u8 16), .lit (.int .u8 46), .lit (.int .u8 35), .lit (.int .u8 44), .lit (.int .u8 21), .lit (.int .u8 52), .lit (.int .u8 32), .lit (.int .u8 23), .lit (.int .u8 11), .lit (.int .u8 54), .lit (.int .u8 26), .lit (.int .u8 40), .lit (.int .u8 15), .lit (.int .u8 34), .lit (.int .u8 20), .lit (.int .u8 31), .lit (.int .u8 10), .lit (.int .u8 25), .lit (.int .u8 14), .lit (.int .u8 19), .lit (.int .u8 9), .lit (.int .u8 13), .lit (.int .u8 8), .lit (.int .u8 7), .lit (.int .u8 6)]
def laid_internal_strconv_uint64pow10 {H : Type} : DataW H := .agg [.lit (.int .u64 1), .lit (.int .u64 10), .lit (.int .u64 100), .lit (.int .u64 1000), .lit (.int .u64 10000), .lit (.int .u64 100000), .lit (.int .u64 1000000), .lit (.int .u64 10000000), .lit (.int .u64 100000000), .lit (.int .u64 1000000000), .lit (.int .u64 10000000000), .lit (.int .u64 100000000000), .lit (.int .u64 1000000000000), .lit (.int .u64 10000000000000), .lit (.int .u64 100000000000000), .lit (.int .u64 1000000000000000), .lit (.int .u64 10000000000000000), .lit (.int .u64 100000000000000000), .lit (.int .u64 1000000000000000000), .lit (.int .u64 10000000000000000000)]

/-- 'wittingtop.TopQuotientUnique': WHATEVER THE INPUT: true; the input reads as it did. -/
def topQuotientUniqueSpec : ChangeSpec := { name := "topQuotientUnique", fn := fun _ => fun
  | [d1, d2] => { results := [.lit (.bool true)], args := [d1, d2] }
  | _ => none }
def topQuotientUniqueRow : OpenClaim := { program := "ytjehkdhnhfghiaagreatdoor", sum := "92272c2480fdbea981d69f4b733e857b1f91b8d01f8cac9c137acd8318427887", func := "witting/wittingtop.TopQuotientUnique", spec := "topQuotientUnique", unfollowed := true, recurses := true, named := ["math/bits.deBruijn64tab", "internal/strconv.uint64pow10", "math/bits.deBruijn32tab"], plainKeys := false, apart := false, laid := [("math/bits.deBruijn32tab", laid_math_bits_deBruijn32tab), ("math/bits.deBruijn64tab", laid_math_bits_deBruijn64tab), ("internal/strconv.uint64pow10", laid_internal_strconv_uint64pow10)] }
def TopQuotientUniqueSaid : Prop := topQuotientUniqueRow.holds Tryz.pinned (OpenSpec.ofChange topQuotientUniqueSpec)

/-- ITS FALSE NEIGHBOUR: 'it returns false'. Refute it at one input. -/
def topQuotientUniqueWrong : ChangeSpec := { name := "topQuotientUnique", fn := fun _ => fun
  | [d1, d2] => { results := [.lit (.bool false)], args := [d1, d2] }
  | _ => none }
def TopQuotientUniqueWrongFalsely : Prop := topQuotientUniqueRow.holds Tryz.pinned (OpenSpec.ofChange topQuotientUniqueWrong)

/-- 'wittinglaw20.QuotientBy': WHATEVER THE INPUT: true; the input reads as it did. -/
def quotientBySpec : ChangeSpec := { name := "quotientBy", fn := fun _ => fun
  | [d1, d2] => { results := [.lit (.bool true)], args := [d1, d2] }
  | _ => none }
def quotientByRow : OpenClaim := { program := "ytjehkdhnhfghiaagreatdoor", sum := "92272c2480fdbea981d69f4b733e857b1f91b8d01f8cac9c137acd8318427887", func := "witting/wittinglaw20.QuotientBy", spec := "quotientBy", unfollowed := true, recurses := true, named := ["math/bits.deBruijn64tab", "internal/strconv.uint64pow10", "math/bits.deBruijn32tab"], plainKeys := false, apart := false, laid := [("math/bits.deBruijn32tab", laid_math_bits_deBruijn32tab), ("math/bits.deBruijn64tab", laid_math_bits_deBruijn64tab), ("internal/strconv.uint64pow10", laid_internal_strconv_uint64pow10)] }
def QuotientBySaid : Prop := quotientByRow.holds Tryz.pinned (OpenSpec.ofChange quotientBySpec)

/-- ITS FALSE NEIGHBOUR: 'it returns false'. Refute it at one input. -/
def quotientByWrong : ChangeSpec := { name := "quotientBy", fn := fun _ => fun
  | [d1, d2] => { results := [.lit (.bool false)], args := [d1, d2] }
  | _ => none }
def QuotientByWrongFalsely : Prop := quotientByRow.holds Tryz.pinned (OpenSpec.ofChange quotientByWrong)

/-- 'wittinglaw20.QuotientBisimilar': WHATEVER THE INPUT: true; the input reads as it did. -/
def quotientBisimilarSpec : ChangeSpec := { name := "quotientBisimilar", fn := fun _ => fun
  | [d] => { results := [.lit (.bool true)], args := [d] }
  | _ => none }
def quotientBisimilarRow : OpenClaim := { program := "ytjehkdhnhfghiaagreatdoor", sum := "92272c2480fdbea981d69f4b733e857b1f91b8d01f8cac9c137acd8318427887", func := "witting/wittinglaw20.QuotientBisimilar", spec := "quotientBisimilar", unfollowed := true, recurses := true, named := ["math/bits.deBruijn64tab", "internal/strconv.uint64pow10", "math/bits.deBruijn32tab"], plainKeys := false, apart := false, laid := [("math/bits.deBruijn32tab", laid_math_bits_deBruijn32tab), ("math/bits.deBruijn64tab", laid_math_bits_deBruijn64tab), ("internal/strconv.uint64pow10", laid_internal_strconv_uint64pow10)] }
def QuotientBisimilarSaid : Prop := quotientBisimilarRow.holds Tryz.pinned (OpenSpec.ofChange quotientBisimilarSpec)

/-- ITS FALSE NEIGHBOUR: 'it returns false'. Refute it at one input. -/
def quotientBisimilarWrong : ChangeSpec := { name := "quotientBisimilar", fn := fun _ => fun
  | [d] => { results := [.lit (.bool false)], args := [d] }
  | _ => none }
def QuotientBisimilarWrongFalsely : Prop := quotientBisimilarRow.holds Tryz.pinned (OpenSpec.ofChange quotientBisimilarWrong)

/-- 'wittinglaw20.QuotientFrames': WHATEVER THE INPUT: true; the input reads as it did. -/
def quotientFramesSpec : ChangeSpec := { name := "quotientFrames", fn := fun _ => fun
  | [d1, d2] => { results := [.lit (.bool true)], args := [d1, d2] }
  | _ => none }
def quotientFramesRow : OpenClaim := { program := "ytjehkdhnhfghiaagreatdoor", sum := "92272c2480fdbea981d69f4b733e857b1f91b8d01f8cac9c137acd8318427887", func := "witting/wittinglaw20.QuotientFrames", spec := "quotientFrames", unfollowed := true, recurses := true, named := ["math/bits.deBruijn64tab", "internal/strconv.uint64pow10", "math/bits.deBruijn32tab"], plainKeys := false, apart := false, laid := [("math/bits.deBruijn32tab", laid_math_bits_deBruijn32tab), ("math/bits.deBruijn64tab", laid_math_bits_deBruijn64tab), ("internal/strconv.uint64pow10", laid_internal_strconv_uint64pow10)] }
def QuotientFramesSaid : Prop := quotientFramesRow.holds Tryz.pinned (OpenSpec.ofChange quotientFramesSpec)

/-- ITS FALSE NEIGHBOUR: 'it returns false'. Refute it at one input. -/
def quotientFramesWrong : ChangeSpec := { name := "quotientFrames", fn := fun _ => fun
  | [d1, d2] => { results := [.lit (.bool false)], args := [d1, d2] }
  | _ => none }
def QuotientFramesWrongFalsely : Prop := quotientFramesRow.holds Tryz.pinned (OpenSpec.ofChange quotientFramesWrong)

/-- 'wittinglaw20.QuotientRenamed': WHATEVER THE INPUT: true; the input reads as it did. -/
def quotientRenamedSpec : ChangeSpec := { name := "quotientRenamed", fn := fun _ => fun
  | [d1, d2, d3] => { results := [.lit (.bool true)], args := [d1, d2, d3] }
  | _ => none }
def quotientRenamedRow : OpenClaim := { program := "ytjehkdhnhfghiaagreatdoor", sum := "92272c2480fdbea981d69f4b733e857b1f91b8d01f8cac9c137acd8318427887", func := "witting/wittinglaw20.QuotientRenamed", spec := "quotientRenamed", unfollowed := true, recurses := true, named := ["math/bits.deBruijn64tab", "internal/strconv.uint64pow10", "math/bits.deBruijn32tab"], plainKeys := false, apart := false, laid := [("math/bits.deBruijn32tab", laid_math_bits_deBruijn32tab), ("math/bits.deBruijn64tab", laid_math_bits_deBruijn64tab), ("internal/strconv.uint64pow10", laid_internal_strconv_uint64pow10)] }
def QuotientRenamedSaid : Prop := quotientRenamedRow.holds Tryz.pinned (OpenSpec.ofChange quotientRenamedSpec)

/-- ITS FALSE NEIGHBOUR: 'it returns false'. Refute it at one input. -/
def quotientRenamedWrong : ChangeSpec := { name := "quotientRenamed", fn := fun _ => fun
  | [d1, d2, d3] => { results := [.lit (.bool false)], args := [d1, d2, d3] }
  | _ => none }
def QuotientRenamedWrongFalsely : Prop := quotientRenamedRow.holds Tryz.pinned (OpenSpec.ofChange quotientRenamedWrong)

/-- 'wittinglaw20.QuotientPoints': WHATEVER THE INPUT: true; the input reads as it did. -/
def quotientPointsSpec : ChangeSpec := { name := "quotientPoints", fn := fun _ => fun
  | [d1, d2] => { results := [.lit (.bool true)], args := [d1, d2] }
  | _ => none }
def quotientPointsRow : OpenClaim := { program := "ytjehkdhnhfghiaagreatdoor", sum := "92272c2480fdbea981d69f4b733e857b1f91b8d01f8cac9c137acd8318427887", func := "witting/wittinglaw20.QuotientPoints", spec := "quotientPoints", unfollowed := true, recurses := true, named := ["math/bits.deBruijn64tab", "internal/strconv.uint64pow10", "math/bits.deBruijn32tab"], plainKeys := false, apart := false, laid := [("math/bits.deBruijn32tab", laid_math_bits_deBruijn32tab), ("math/bits.deBruijn64tab", laid_math_bits_deBruijn64tab), ("internal/strconv.uint64pow10", laid_internal_strconv_uint64pow10)] }
def QuotientPointsSaid : Prop := quotientPointsRow.holds Tryz.pinned (OpenSpec.ofChange quotientPointsSpec)

/-- ITS FALSE NEIGHBOUR: 'it returns false'. Refute it at one input. -/
def quotientPointsWrong : ChangeSpec := { name := "quotientPoints", fn := fun _ => fun
  | [d1, d2] => { results := [.lit (.bool false)], args := [d1, d2] }
  | _ => none }
def QuotientPointsWrongFalsely : Prop := quotientPointsRow.holds Tryz.pinned (OpenSpec.ofChange quotientPointsWrong)

/-- 'wittinglaw20.QuotientSame': WHATEVER THE INPUT: true; the input reads as it did. -/
def quotientSameSpec : ChangeSpec := { name := "quotientSame", fn := fun _ => fun
  | [d1, d2, d3] => { results := [.lit (.bool true)], args := [d1, d2, d3] }
  | _ => none }
def quotientSameRow : OpenClaim := { program := "ytjehkdhnhfghiaagreatdoor", sum := "92272c2480fdbea981d69f4b733e857b1f91b8d01f8cac9c137acd8318427887", func := "witting/wittinglaw20.QuotientSame", spec := "quotientSame", unfollowed := true, recurses := true, named := ["math/bits.deBruijn64tab", "internal/strconv.uint64pow10", "math/bits.deBruijn32tab"], plainKeys := false, apart := false, laid := [("math/bits.deBruijn32tab", laid_math_bits_deBruijn32tab), ("math/bits.deBruijn64tab", laid_math_bits_deBruijn64tab), ("internal/strconv.uint64pow10", laid_internal_strconv_uint64pow10)] }
def QuotientSameSaid : Prop := quotientSameRow.holds Tryz.pinned (OpenSpec.ofChange quotientSameSpec)

/-- ITS FALSE NEIGHBOUR: 'it returns false'. Refute it at one input. -/
def quotientSameWrong : ChangeSpec := { name := "quotientSame", fn := fun _ => fun
  | [d1, d2, d3] => { results := [.lit (.bool false)], args := [d1, d2, d3] }
  | _ => none }
def QuotientSameWrongFalsely : Prop := quotientSameRow.holds Tryz.pinned (OpenSpec.ofChange quotientSameWrong)

/-- 'wittinglaw20.QuotientDecides': WHATEVER THE INPUT: true; the input reads as it did. -/
def quotientDecidesSpec : ChangeSpec := { name := "quotientDecides", fn := fun _ => fun
  | [d1, d2, d3] => { results := [.lit (.bool true)], args := [d1, d2, d3] }
  | _ => none }
def quotientDecidesRow : OpenClaim := { program := "ytjehkdhnhfghiaagreatdoor", sum := "92272c2480fdbea981d69f4b733e857b1f91b8d01f8cac9c137acd8318427887", func := "witting/wittinglaw20.QuotientDecides", spec := "quotientDecides", unfollowed := true, recurses := true, named := ["math/bits.deBruijn64tab", "internal/strconv.uint64pow10", "math/bits.deBruijn32tab"], plainKeys := false, apart := false, laid := [("math/bits.deBruijn32tab", laid_math_bits_deBruijn32tab), ("math/bits.deBruijn64tab", laid_math_bits_deBruijn64tab), ("internal/strconv.uint64pow10", laid_internal_strconv_uint64pow10)] }
def QuotientDecidesSaid : Prop := quotientDecidesRow.holds Tryz.pinned (OpenSpec.ofChange quotientDecidesSpec)

/-- ITS FALSE NEIGHBOUR: 'it returns false'. Refute it at one input. -/
def quotientDecidesWrong : ChangeSpec := { name := "quotientDecides", fn := fun _ => fun
  | [d1, d2, d3] => { results := [.lit (.bool false)], args := [d1, d2, d3] }
  | _ => none }
def QuotientDecidesWrongFalsely : Prop := quotientDecidesRow.holds Tryz.pinned (OpenSpec.ofChange quotientDecidesWrong)

/-- 'wittinglaw20.QuotientTruth': WHATEVER THE INPUT: true; the input reads as it did. -/
def quotientTruthSpec : ChangeSpec := { name := "quotientTruth", fn := fun _ => fun
  | [d1, d2] => { results := [.lit (.bool true)], args := [d1, d2] }
  | _ => none }
def quotientTruthRow : OpenClaim := { program := "ytjehkdhnhfghiaagreatdoor", sum := "92272c2480fdbea981d69f4b733e857b1f91b8d01f8cac9c137acd8318427887", func := "witting/wittinglaw20.QuotientTruth", spec := "quotientTruth", unfollowed := true, recurses := true, named := ["math/bits.deBruijn64tab", "internal/strconv.uint64pow10", "math/bits.deBruijn32tab"], plainKeys := false, apart := false, laid := [("math/bits.deBruijn32tab", laid_math_bits_deBruijn32tab), ("math/bits.deBruijn64tab", laid_math_bits_deBruijn64tab), ("internal/strconv.uint64pow10", laid_internal_strconv_uint64pow10)] }
def QuotientTruthSaid : Prop := quotientTruthRow.holds Tryz.pinned (OpenSpec.ofChange quotientTruthSpec)

/-- ITS FALSE NEIGHBOUR: 'it returns false'. Refute it at one input. -/
def quotientTruthWrong : ChangeSpec := { name := "quotientTruth", fn := fun _ => fun
  | [d1, d2] => { results := [.lit (.bool false)], args := [d1, d2] }
  | _ => none }
def QuotientTruthWrongFalsely : Prop := quotientTruthRow.holds Tryz.pinned (OpenSpec.ofChange quotientTruthWrong)

/-- 'wittingtop.TopCanonicalTells': WHATEVER THE INPUT: true; the input reads as it did. -/
def topCanonicalTellsSpec : ChangeSpec := { name := "topCanonicalTells", fn := fun _ => fun
  | [d1, d2] => { results := [.lit (.bool true)], args := [d1, d2] }
  | _ => none }
def topCanonicalTellsRow : OpenClaim := { program := "ytjehkdhnhfghiaagreatdoor", sum := "92272c2480fdbea981d69f4b733e857b1f91b8d01f8cac9c137acd8318427887", func := "witting/wittingtop.TopCanonicalTells", spec := "topCanonicalTells", unfollowed := true, recurses := true, named := ["math/bits.deBruijn64tab", "internal/strconv.uint64pow10", "math/bits.deBruijn32tab"], plainKeys := false, apart := false, laid := [("math/bits.deBruijn32tab", laid_math_bits_deBruijn32tab), ("math/bits.deBruijn64tab", laid_math_bits_deBruijn64tab), ("internal/strconv.uint64pow10", laid_internal_strconv_uint64pow10)] }
def TopCanonicalTellsSaid : Prop := topCanonicalTellsRow.holds Tryz.pinned (OpenSpec.ofChange topCanonicalTellsSpec)

/-- ITS FALSE NEIGHBOUR: 'it returns false'. Refute it at one input. -/
def topCanonicalTellsWrong : ChangeSpec := { name := "topCanonicalTells", fn := fun _ => fun
  | [d1, d2] => { results := [.lit (.bool false)], args := [d1, d2] }
  | _ => none }
def TopCanonicalTellsWrongFalsely : Prop := topCanonicalTellsRow.holds Tryz.pinned (OpenSpec.ofChange topCanonicalTellsWrong)

/- THE SECOND FORM. 'bulk': how many values and letters a reading holds, each counted each time it is reached (what is shared counts as often as it is met; a slice's spare places count too). A statement '..UptoSaid' is the law's where the arguments, and the package variables that the reading takes, are together of bulk at most 1048576: NARROWER than '..Said'. Prove '..Said' where nothing that the law and all that it calls make is longer than what came in: it says more and counts as full. Else prove '..UptoSaid'. A law counts once. -/
mutual
def uptoBulk {H : Type} : DataW H → Nat
  | .lit (.string bytes) => bytes.length + 1
  | .lit _ => 1
  | .nil => 1
  | .ptr d => uptoBulk d + 1
  | .slice elems spare => uptoBulkAll elems + uptoBulkAll spare + 1
  | .agg parts => uptoBulkAll parts + 1
  | .iface _ d => uptoBulk d + 1
  | .map entries => uptoBulkEntries entries + 1
  | .held _ => 1
def uptoBulkAll {H : Type} : List (DataW H) → Nat
  | [] => 0
  | d :: r => uptoBulk d + uptoBulkAll r
def uptoBulkEntries {H : Type} : List (Lit × DataW H) → Nat
  | [] => 0
  | x :: r => uptoBulkEntry x + uptoBulkEntries r
def uptoBulkEntry {H : Type} : Lit × DataW H → Nat
  | (.string bytes, d) => bytes.length + uptoBulk d + 1
  | (_, d) => uptoBulk d + 1
 end
def uptoSmall : (H : Type) → List (DataW H) → Bool := fun _ ds => decide (uptoBulkAll ds ≤ 1048576)
def OpenSpec.upto (s : _root_.Go.ChangeSpec) : _root_.Go.OpenSpec := { _root_.Go.OpenSpec.ofChange s with cond := some uptoSmall }

/-- 'wittingtop.TopQuotientUnique', WHERE WHAT IT READS IS OF BULK AT MOST 1048576: true; the input reads as it did. -/
def topQuotientUniqueUptoRow : OpenClaim := { program := "ytjehkdhnhfghiaagreatdoor", sum := "92272c2480fdbea981d69f4b733e857b1f91b8d01f8cac9c137acd8318427887", func := "witting/wittingtop.TopQuotientUnique", spec := "topQuotientUnique", unfollowed := true, recurses := true, named := ["math/bits.deBruijn64tab", "internal/strconv.uint64pow10", "math/bits.deBruijn32tab"], plainKeys := false, apart := false, laid := [("math/bits.deBruijn32tab", laid_math_bits_deBruijn32tab), ("math/bits.deBruijn64tab", laid_math_bits_deBruijn64tab), ("internal/strconv.uint64pow10", laid_internal_strconv_uint64pow10)], narrowed := true }
def TopQuotientUniqueUptoSaid : Prop := topQuotientUniqueUptoRow.holds Tryz.pinned (OpenSpec.upto topQuotientUniqueSpec)

/-- 'wittinglaw20.QuotientBy', WHERE WHAT IT READS IS OF BULK AT MOST 1048576: true; the input reads as it did. -/
def quotientByUptoRow : OpenClaim := { program := "ytjehkdhnhfghiaagreatdoor", sum := "92272c2480fdbea981d69f4b733e857b1f91b8d01f8cac9c137acd8318427887", func := "witting/wittinglaw20.QuotientBy", spec := "quotientBy", unfollowed := true, recurses := true, named := ["math/bits.deBruijn64tab", "internal/strconv.uint64pow10", "math/bits.deBruijn32tab"], plainKeys := false, apart := false, laid := [("math/bits.deBruijn32tab", laid_math_bits_deBruijn32tab), ("math/bits.deBruijn64tab", laid_math_bits_deBruijn64tab), ("internal/strconv.uint64pow10", laid_internal_strconv_uint64pow10)], narrowed := true }
def QuotientByUptoSaid : Prop := quotientByUptoRow.holds Tryz.pinned (OpenSpec.upto quotientBySpec)

/-- 'wittinglaw20.QuotientBisimilar', WHERE WHAT IT READS IS OF BULK AT MOST 1048576: true; the input reads as it did. -/
def quotientBisimilarUptoRow : OpenClaim := { program := "ytjehkdhnhfghiaagreatdoor", sum := "92272c2480fdbea981d69f4b733e857b1f91b8d01f8cac9c137acd8318427887", func := "witting/wittinglaw20.QuotientBisimilar", spec := "quotientBisimilar", unfollowed := true, recurses := true, named := ["math/bits.deBruijn64tab", "internal/strconv.uint64pow10", "math/bits.deBruijn32tab"], plainKeys := false, apart := false, laid := [("math/bits.deBruijn32tab", laid_math_bits_deBruijn32tab), ("math/bits.deBruijn64tab", laid_math_bits_deBruijn64tab), ("internal/strconv.uint64pow10", laid_internal_strconv_uint64pow10)], narrowed := true }
def QuotientBisimilarUptoSaid : Prop := quotientBisimilarUptoRow.holds Tryz.pinned (OpenSpec.upto quotientBisimilarSpec)

/-- 'wittinglaw20.QuotientFrames', WHERE WHAT IT READS IS OF BULK AT MOST 1048576: true; the input reads as it did. -/
def quotientFramesUptoRow : OpenClaim := { program := "ytjehkdhnhfghiaagreatdoor", sum := "92272c2480fdbea981d69f4b733e857b1f91b8d01f8cac9c137acd8318427887", func := "witting/wittinglaw20.QuotientFrames", spec := "quotientFrames", unfollowed := true, recurses := true, named := ["math/bits.deBruijn64tab", "internal/strconv.uint64pow10", "math/bits.deBruijn32tab"], plainKeys := false, apart := false, laid := [("math/bits.deBruijn32tab", laid_math_bits_deBruijn32tab), ("math/bits.deBruijn64tab", laid_math_bits_deBruijn64tab), ("internal/strconv.uint64pow10", laid_internal_strconv_uint64pow10)], narrowed := true }
def QuotientFramesUptoSaid : Prop := quotientFramesUptoRow.holds Tryz.pinned (OpenSpec.upto quotientFramesSpec)

/-- 'wittinglaw20.QuotientRenamed', WHERE WHAT IT READS IS OF BULK AT MOST 1048576: true; the input reads as it did. -/
def quotientRenamedUptoRow : OpenClaim := { program := "ytjehkdhnhfghiaagreatdoor", sum := "92272c2480fdbea981d69f4b733e857b1f91b8d01f8cac9c137acd8318427887", func := "witting/wittinglaw20.QuotientRenamed", spec := "quotientRenamed", unfollowed := true, recurses := true, named := ["math/bits.deBruijn64tab", "internal/strconv.uint64pow10", "math/bits.deBruijn32tab"], plainKeys := false, apart := false, laid := [("math/bits.deBruijn32tab", laid_math_bits_deBruijn32tab), ("math/bits.deBruijn64tab", laid_math_bits_deBruijn64tab), ("internal/strconv.uint64pow10", laid_internal_strconv_uint64pow10)], narrowed := true }
def QuotientRenamedUptoSaid : Prop := quotientRenamedUptoRow.holds Tryz.pinned (OpenSpec.upto quotientRenamedSpec)

/-- 'wittinglaw20.QuotientPoints', WHERE WHAT IT READS IS OF BULK AT MOST 1048576: true; the input reads as it did. -/
def quotientPointsUptoRow : OpenClaim := { program := "ytjehkdhnhfghiaagreatdoor", sum := "92272c2480fdbea981d69f4b733e857b1f91b8d01f8cac9c137acd8318427887", func := "witting/wittinglaw20.QuotientPoints", spec := "quotientPoints", unfollowed := true, recurses := true, named := ["math/bits.deBruijn64tab", "internal/strconv.uint64pow10", "math/bits.deBruijn32tab"], plainKeys := false, apart := false, laid := [("math/bits.deBruijn32tab", laid_math_bits_deBruijn32tab), ("math/bits.deBruijn64tab", laid_math_bits_deBruijn64tab), ("internal/strconv.uint64pow10", laid_internal_strconv_uint64pow10)], narrowed := true }
def QuotientPointsUptoSaid : Prop := quotientPointsUptoRow.holds Tryz.pinned (OpenSpec.upto quotientPointsSpec)

/-- 'wittinglaw20.QuotientSame', WHERE WHAT IT READS IS OF BULK AT MOST 1048576: true; the input reads as it did. -/
def quotientSameUptoRow : OpenClaim := { program := "ytjehkdhnhfghiaagreatdoor", sum := "92272c2480fdbea981d69f4b733e857b1f91b8d01f8cac9c137acd8318427887", func := "witting/wittinglaw20.QuotientSame", spec := "quotientSame", unfollowed := true, recurses := true, named := ["math/bits.deBruijn64tab", "internal/strconv.uint64pow10", "math/bits.deBruijn32tab"], plainKeys := false, apart := false, laid := [("math/bits.deBruijn32tab", laid_math_bits_deBruijn32tab), ("math/bits.deBruijn64tab", laid_math_bits_deBruijn64tab), ("internal/strconv.uint64pow10", laid_internal_strconv_uint64pow10)], narrowed := true }
def QuotientSameUptoSaid : Prop := quotientSameUptoRow.holds Tryz.pinned (OpenSpec.upto quotientSameSpec)

/-- 'wittinglaw20.QuotientDecides', WHERE WHAT IT READS IS OF BULK AT MOST 1048576: true; the input reads as it did. -/
def quotientDecidesUptoRow : OpenClaim := { program := "ytjehkdhnhfghiaagreatdoor", sum := "92272c2480fdbea981d69f4b733e857b1f91b8d01f8cac9c137acd8318427887", func := "witting/wittinglaw20.QuotientDecides", spec := "quotientDecides", unfollowed := true, recurses := true, named := ["math/bits.deBruijn64tab", "internal/strconv.uint64pow10", "math/bits.deBruijn32tab"], plainKeys := false, apart := false, laid := [("math/bits.deBruijn32tab", laid_math_bits_deBruijn32tab), ("math/bits.deBruijn64tab", laid_math_bits_deBruijn64tab), ("internal/strconv.uint64pow10", laid_internal_strconv_uint64pow10)], narrowed := true }
def QuotientDecidesUptoSaid : Prop := quotientDecidesUptoRow.holds Tryz.pinned (OpenSpec.upto quotientDecidesSpec)

/-- 'wittinglaw20.QuotientTruth', WHERE WHAT IT READS IS OF BULK AT MOST 1048576: true; the input reads as it did. -/
def quotientTruthUptoRow : OpenClaim := { program := "ytjehkdhnhfghiaagreatdoor", sum := "92272c2480fdbea981d69f4b733e857b1f91b8d01f8cac9c137acd8318427887", func := "witting/wittinglaw20.QuotientTruth", spec := "quotientTruth", unfollowed := true, recurses := true, named := ["math/bits.deBruijn64tab", "internal/strconv.uint64pow10", "math/bits.deBruijn32tab"], plainKeys := false, apart := false, laid := [("math/bits.deBruijn32tab", laid_math_bits_deBruijn32tab), ("math/bits.deBruijn64tab", laid_math_bits_deBruijn64tab), ("internal/strconv.uint64pow10", laid_internal_strconv_uint64pow10)], narrowed := true }
def QuotientTruthUptoSaid : Prop := quotientTruthUptoRow.holds Tryz.pinned (OpenSpec.upto quotientTruthSpec)

/-- 'wittingtop.TopCanonicalTells', WHERE WHAT IT READS IS OF BULK AT MOST 1048576: true; the input reads as it did. -/
def topCanonicalTellsUptoRow : OpenClaim := { program := "ytjehkdhnhfghiaagreatdoor", sum := "92272c2480fdbea981d69f4b733e857b1f91b8d01f8cac9c137acd8318427887", func := "witting/wittingtop.TopCanonicalTells", spec := "topCanonicalTells", unfollowed := true, recurses := true, named := ["math/bits.deBruijn64tab", "internal/strconv.uint64pow10", "math/bits.deBruijn32tab"], plainKeys := false, apart := false, laid := [("math/bits.deBruijn32tab", laid_math_bits_deBruijn32tab), ("math/bits.deBruijn64tab", laid_math_bits_deBruijn64tab), ("internal/strconv.uint64pow10", laid_internal_strconv_uint64pow10)], narrowed := true }
def TopCanonicalTellsUptoSaid : Prop := topCanonicalTellsUptoRow.holds Tryz.pinned (OpenSpec.upto topCanonicalTellsSpec)

end Rows
end Go.Proofs.YtjehkdhnhfghiaaGreatDoor
