/-
  NARROWER THAN 'FOR EVERY INPUT', by the rows' own cells (each row's printed sentence says how): PlausbisimRounds: laid · PlausbisimMinimize: laid · PlausbisimFormulas: laid · PlausbisimSatisfies: laid · PlausbisimQuotient: laid · PlausbisimMinimal: laid · PlausbisimRanks: laid.
  DERIVED. THE GIVEN ROWS OF THIS SEAT. 7 by the template 'for every input the law returns true; each argument reads behind the call as it read before'; 0 by the template 'total and deterministic' (their statements: YtmnbcipineblbaaGreatDoorTotals.lean).
  GIVEN WITH THE SEED: the statements are not yours to turn. If you find one false, say at which input.
  Laid BY PROGRAM, IN A SANDBOX (cutbox-rows.mjs): the forced cells as the released guide's own fill.sh prints them over the translation 54b9a4399d45d3b6… (all of the seat's roots in one cut). By AI agents, Wed Nov 11 2026. No macro, syntax, notation, axiom, sorry.
-/
import Derived.Test.YtmnbcipineblbaaGreatDoorChecked
import GoSem.Claim
import GoSem.ClaimJoined
import GoSem.ClaimMapViews
import Derived.JoinedTies
import Derived.KernelRfl
namespace Go.Proofs.YtmnbcipineblbaaGreatDoor
/- THE CELL 'sum', in the pinned program and in every row, IS THE sha256 OF THE DUMP (.gsa) THAT YtmnbcipineblbaaGreatDoorProg.lean LOADS. Nothing in Lean hashes anything: it is a label: what it is worth is what the hold of that sum in a sandbox is worth. -/
noncomputable def Tryz.pinned : Pinned := { name := "ytmnbcipineblbaagreatdoor", sum := "54b9a4399d45d3b6249f67f155e063bc06bb8e4aacc7fd274eb22f79a32a5c77", checked := Tryz.checked }
namespace Rows
def none {H : Type} : Left H := { results := [], args := [] }

/- WHAT THE LISTED PACKAGE-LEVEL VARIABLES READ AS WHEN THE CALL BEGINS. Each datum BY PROGRAM (the guide's laid-datum.mjs) off the statement by which the dump's own 'gosem.cut.vars' lays the variable. In a bare row this is a premise. The card (YtmnbcipineblbaaGreatDoorCards.lean) ties it to the program's text. -/
def laid_math_bits_deBruijn64tab {H : Type} : DataW H := .agg [.lit (.int .u8 0), .lit (.int .u8 1), .lit (.int .u8 56), .lit (.int .u8 2), .lit (.int .u8 57), .lit (.int .u8 49), .lit (.int .u8 28), .lit (.int .u8 3), .lit (.int .u8 61), .lit (.int .u8 58), .lit (.int .u8 42), .lit (.int .u8 50), .lit (.int .u8 38), .lit (.int .u8 29), .lit (.int .u8 17), .lit (.int .u8 4), .lit (.int .u8 62), .lit (.int .u8 47), .lit (.int .u8 59), .lit (.int .u8 36), .lit (.int .u8 45), .lit (.int .u8 43), .lit (.int .u8 51), .lit (.int .u8 22), .lit (.int .u8 53), .lit (.int .u8 39), .lit (.int .u8 33), .lit (.int .u8 30), .lit (.int .u8 24), .lit (.int .u8 18), .lit (.int .u8 12), .lit (.int .u8 5), .lit (.int .u8 63), .lit (.int .u8 55), .lit (.int .u8 48), .lit (.int .u8 27), .lit (.int .u8 60), .lit (.int .u8 41), .lit (.int .u8 37), .lit (.int .u8 16), .lit (.int .u8 46), .lit (.int .u8 35), .lit (.int .u8 44), .lit (.int .u8 21), .lit (.int .u8 52), .lit (.int .u8 32), .lit (.int .u8 23), .lit (.int .u8 11), .lit (.int .u8 54), .lit (.int .u8 26), .lit (.int .u8 40), .lit (.int .u8 15), .lit (.int .u8 34), .lit (.int .u8 20), .lit (.int .u8 31), .lit (.int .u8 10), .lit (.int .u8 25), .lit (.int .u8 14), .lit (.int .u8 19), .lit (.int .u8 9), .lit (.int .u8 13), .lit (.int .u8 8), .lit (.int .u8 7), .lit (.int .u8 6)]

/-- 'wittinglaw35.PlausbisimRounds': WHATEVER THE INPUT: true; the input reads as it did. -/
def plausbisimRoundsSpec : ChangeSpec := { name := "plausbisimRounds", fn := fun _ => fun
  | [d1, d2] => { results := [.lit (.bool true)], args := [d1, d2] }
  | _ => none }
def plausbisimRoundsRow : OpenClaim := { program := "ytmnbcipineblbaagreatdoor", sum := "54b9a4399d45d3b6249f67f155e063bc06bb8e4aacc7fd274eb22f79a32a5c77", func := "witting/wittinglaw35.PlausbisimRounds", spec := "plausbisimRounds", unfollowed := true, recurses := true, named := ["math/bits.deBruijn64tab"], plainKeys := false, apart := false, laid := [("math/bits.deBruijn64tab", laid_math_bits_deBruijn64tab)] }
def PlausbisimRoundsSaid : Prop := plausbisimRoundsRow.holds Tryz.pinned (OpenSpec.ofChange plausbisimRoundsSpec)

/-- ITS FALSE NEIGHBOUR: 'it returns false'. Refute it at one input. -/
def plausbisimRoundsWrong : ChangeSpec := { name := "plausbisimRounds", fn := fun _ => fun
  | [d1, d2] => { results := [.lit (.bool false)], args := [d1, d2] }
  | _ => none }
def PlausbisimRoundsWrongFalsely : Prop := plausbisimRoundsRow.holds Tryz.pinned (OpenSpec.ofChange plausbisimRoundsWrong)

/-- 'wittinglaw35.PlausbisimMinimize': WHATEVER THE INPUT: true; the input reads as it did. -/
def plausbisimMinimizeSpec : ChangeSpec := { name := "plausbisimMinimize", fn := fun _ => fun
  | [d] => { results := [.lit (.bool true)], args := [d] }
  | _ => none }
def plausbisimMinimizeRow : OpenClaim := { program := "ytmnbcipineblbaagreatdoor", sum := "54b9a4399d45d3b6249f67f155e063bc06bb8e4aacc7fd274eb22f79a32a5c77", func := "witting/wittinglaw35.PlausbisimMinimize", spec := "plausbisimMinimize", unfollowed := true, recurses := true, named := ["math/bits.deBruijn64tab"], plainKeys := false, apart := false, laid := [("math/bits.deBruijn64tab", laid_math_bits_deBruijn64tab)] }
def PlausbisimMinimizeSaid : Prop := plausbisimMinimizeRow.holds Tryz.pinned (OpenSpec.ofChange plausbisimMinimizeSpec)

/-- ITS FALSE NEIGHBOUR: 'it returns false'. Refute it at one input. -/
def plausbisimMinimizeWrong : ChangeSpec := { name := "plausbisimMinimize", fn := fun _ => fun
  | [d] => { results := [.lit (.bool false)], args := [d] }
  | _ => none }
def PlausbisimMinimizeWrongFalsely : Prop := plausbisimMinimizeRow.holds Tryz.pinned (OpenSpec.ofChange plausbisimMinimizeWrong)

/-- 'wittinglaw35.PlausbisimFormulas': WHATEVER THE INPUT: true; the input reads as it did. -/
def plausbisimFormulasSpec : ChangeSpec := { name := "plausbisimFormulas", fn := fun _ => fun
  | [d1, d2, d3] => { results := [.lit (.bool true)], args := [d1, d2, d3] }
  | _ => none }
def plausbisimFormulasRow : OpenClaim := { program := "ytmnbcipineblbaagreatdoor", sum := "54b9a4399d45d3b6249f67f155e063bc06bb8e4aacc7fd274eb22f79a32a5c77", func := "witting/wittinglaw35.PlausbisimFormulas", spec := "plausbisimFormulas", unfollowed := true, recurses := true, named := ["math/bits.deBruijn64tab"], plainKeys := false, apart := false, laid := [("math/bits.deBruijn64tab", laid_math_bits_deBruijn64tab)] }
def PlausbisimFormulasSaid : Prop := plausbisimFormulasRow.holds Tryz.pinned (OpenSpec.ofChange plausbisimFormulasSpec)

/-- ITS FALSE NEIGHBOUR: 'it returns false'. Refute it at one input. -/
def plausbisimFormulasWrong : ChangeSpec := { name := "plausbisimFormulas", fn := fun _ => fun
  | [d1, d2, d3] => { results := [.lit (.bool false)], args := [d1, d2, d3] }
  | _ => none }
def PlausbisimFormulasWrongFalsely : Prop := plausbisimFormulasRow.holds Tryz.pinned (OpenSpec.ofChange plausbisimFormulasWrong)

/-- 'wittinglaw35.PlausbisimSatisfies': WHATEVER THE INPUT: true; the input reads as it did. -/
def plausbisimSatisfiesSpec : ChangeSpec := { name := "plausbisimSatisfies", fn := fun _ => fun
  | [d1, d2] => { results := [.lit (.bool true)], args := [d1, d2] }
  | _ => none }
def plausbisimSatisfiesRow : OpenClaim := { program := "ytmnbcipineblbaagreatdoor", sum := "54b9a4399d45d3b6249f67f155e063bc06bb8e4aacc7fd274eb22f79a32a5c77", func := "witting/wittinglaw35.PlausbisimSatisfies", spec := "plausbisimSatisfies", unfollowed := true, recurses := true, named := ["math/bits.deBruijn64tab"], plainKeys := false, apart := false, laid := [("math/bits.deBruijn64tab", laid_math_bits_deBruijn64tab)] }
def PlausbisimSatisfiesSaid : Prop := plausbisimSatisfiesRow.holds Tryz.pinned (OpenSpec.ofChange plausbisimSatisfiesSpec)

/-- ITS FALSE NEIGHBOUR: 'it returns false'. Refute it at one input. -/
def plausbisimSatisfiesWrong : ChangeSpec := { name := "plausbisimSatisfies", fn := fun _ => fun
  | [d1, d2] => { results := [.lit (.bool false)], args := [d1, d2] }
  | _ => none }
def PlausbisimSatisfiesWrongFalsely : Prop := plausbisimSatisfiesRow.holds Tryz.pinned (OpenSpec.ofChange plausbisimSatisfiesWrong)

/-- 'wittinglaw35.PlausbisimQuotient': WHATEVER THE INPUT: true; the input reads as it did. -/
def plausbisimQuotientSpec : ChangeSpec := { name := "plausbisimQuotient", fn := fun _ => fun
  | [d1, d2] => { results := [.lit (.bool true)], args := [d1, d2] }
  | _ => none }
def plausbisimQuotientRow : OpenClaim := { program := "ytmnbcipineblbaagreatdoor", sum := "54b9a4399d45d3b6249f67f155e063bc06bb8e4aacc7fd274eb22f79a32a5c77", func := "witting/wittinglaw35.PlausbisimQuotient", spec := "plausbisimQuotient", unfollowed := true, recurses := true, named := ["math/bits.deBruijn64tab"], plainKeys := false, apart := false, laid := [("math/bits.deBruijn64tab", laid_math_bits_deBruijn64tab)] }
def PlausbisimQuotientSaid : Prop := plausbisimQuotientRow.holds Tryz.pinned (OpenSpec.ofChange plausbisimQuotientSpec)

/-- ITS FALSE NEIGHBOUR: 'it returns false'. Refute it at one input. -/
def plausbisimQuotientWrong : ChangeSpec := { name := "plausbisimQuotient", fn := fun _ => fun
  | [d1, d2] => { results := [.lit (.bool false)], args := [d1, d2] }
  | _ => none }
def PlausbisimQuotientWrongFalsely : Prop := plausbisimQuotientRow.holds Tryz.pinned (OpenSpec.ofChange plausbisimQuotientWrong)

/-- 'wittinglaw35.PlausbisimMinimal': WHATEVER THE INPUT: true; the input reads as it did. -/
def plausbisimMinimalSpec : ChangeSpec := { name := "plausbisimMinimal", fn := fun _ => fun
  | [d] => { results := [.lit (.bool true)], args := [d] }
  | _ => none }
def plausbisimMinimalRow : OpenClaim := { program := "ytmnbcipineblbaagreatdoor", sum := "54b9a4399d45d3b6249f67f155e063bc06bb8e4aacc7fd274eb22f79a32a5c77", func := "witting/wittinglaw35.PlausbisimMinimal", spec := "plausbisimMinimal", unfollowed := true, recurses := true, named := ["math/bits.deBruijn64tab"], plainKeys := false, apart := false, laid := [("math/bits.deBruijn64tab", laid_math_bits_deBruijn64tab)] }
def PlausbisimMinimalSaid : Prop := plausbisimMinimalRow.holds Tryz.pinned (OpenSpec.ofChange plausbisimMinimalSpec)

/-- ITS FALSE NEIGHBOUR: 'it returns false'. Refute it at one input. -/
def plausbisimMinimalWrong : ChangeSpec := { name := "plausbisimMinimal", fn := fun _ => fun
  | [d] => { results := [.lit (.bool false)], args := [d] }
  | _ => none }
def PlausbisimMinimalWrongFalsely : Prop := plausbisimMinimalRow.holds Tryz.pinned (OpenSpec.ofChange plausbisimMinimalWrong)

/-- 'wittinglaw35.PlausbisimRanks': WHATEVER THE INPUT: true; the input reads as it did. -/
def plausbisimRanksSpec : ChangeSpec := { name := "plausbisimRanks", fn := fun _ => fun
  | [d1, d2, d3] => { results := [.lit (.bool true)], args := [d1, d2, d3] }
  | _ => none }
def plausbisimRanksRow : OpenClaim := { program := "ytmnbcipineblbaagreatdoor", sum := "54b9a4399d45d3b6249f67f155e063bc06bb8e4aacc7fd274eb22f79a32a5c77", func := "witting/wittinglaw35.PlausbisimRanks", spec := "plausbisimRanks", unfollowed := true, recurses := true, named := ["math/bits.deBruijn64tab"], plainKeys := false, apart := false, laid := [("math/bits.deBruijn64tab", laid_math_bits_deBruijn64tab)] }
def PlausbisimRanksSaid : Prop := plausbisimRanksRow.holds Tryz.pinned (OpenSpec.ofChange plausbisimRanksSpec)

/-- ITS FALSE NEIGHBOUR: 'it returns false'. Refute it at one input. -/
def plausbisimRanksWrong : ChangeSpec := { name := "plausbisimRanks", fn := fun _ => fun
  | [d1, d2, d3] => { results := [.lit (.bool false)], args := [d1, d2, d3] }
  | _ => none }
def PlausbisimRanksWrongFalsely : Prop := plausbisimRanksRow.holds Tryz.pinned (OpenSpec.ofChange plausbisimRanksWrong)

/- THE SECOND FORM. 'bulk': how many values and letters a reading holds, each counted each time it is reached (what is shared counts as often as it is met; a slice's spare places count too). A statement '..UptoSaid' is the law's where the arguments, and the package variables that the reading takes, are together of bulk at most 1048576: NARROWER than '..Said'. Prove '..Said' where nothing that the law and all that it calls make is longer than what came in: it says more and counts as full. Else prove '..UptoSaid'. A law counts once. -/
mutual
def uptoBulk {H : Type} : DataW H → Nat
  | .lit (.string bytes) => bytes.length + 1
  | .lit _ => 1
  | .nil => 1
  | .ptr d => uptoBulk d + 1
  | .slice elems spare => uptoBulkAll elems + uptoBulkAll spare + 1
  | .agg parts => uptoBulkAll parts + 1
  | .iface _ d => uptoBulk d + 1
  | .map entries => uptoBulkEntries entries + 1
  | .held _ => 1
def uptoBulkAll {H : Type} : List (DataW H) → Nat
  | [] => 0
  | d :: r => uptoBulk d + uptoBulkAll r
def uptoBulkEntries {H : Type} : List (Lit × DataW H) → Nat
  | [] => 0
  | x :: r => uptoBulkEntry x + uptoBulkEntries r
def uptoBulkEntry {H : Type} : Lit × DataW H → Nat
  | (.string bytes, d) => bytes.length + uptoBulk d + 1
  | (_, d) => uptoBulk d + 1
 end
def uptoSmall : (H : Type) → List (DataW H) → Bool := fun _ ds => decide (uptoBulkAll ds ≤ 1048576)
def OpenSpec.upto (s : _root_.Go.ChangeSpec) : _root_.Go.OpenSpec := { _root_.Go.OpenSpec.ofChange s with cond := some uptoSmall }

/-- 'wittinglaw35.PlausbisimRounds', WHERE WHAT IT READS IS OF BULK AT MOST 1048576: true; the input reads as it did. -/
def plausbisimRoundsUptoRow : OpenClaim := { program := "ytmnbcipineblbaagreatdoor", sum := "54b9a4399d45d3b6249f67f155e063bc06bb8e4aacc7fd274eb22f79a32a5c77", func := "witting/wittinglaw35.PlausbisimRounds", spec := "plausbisimRounds", unfollowed := true, recurses := true, named := ["math/bits.deBruijn64tab"], plainKeys := false, apart := false, laid := [("math/bits.deBruijn64tab", laid_math_bits_deBruijn64tab)], narrowed := true }
def PlausbisimRoundsUptoSaid : Prop := plausbisimRoundsUptoRow.holds Tryz.pinned (OpenSpec.upto plausbisimRoundsSpec)

/-- 'wittinglaw35.PlausbisimMinimize', WHERE WHAT IT READS IS OF BULK AT MOST 1048576: true; the input reads as it did. -/
def plausbisimMinimizeUptoRow : OpenClaim := { program := "ytmnbcipineblbaagreatdoor", sum := "54b9a4399d45d3b6249f67f155e063bc06bb8e4aacc7fd274eb22f79a32a5c77", func := "witting/wittinglaw35.PlausbisimMinimize", spec := "plausbisimMinimize", unfollowed := true, recurses := true, named := ["math/bits.deBruijn64tab"], plainKeys := false, apart := false, laid := [("math/bits.deBruijn64tab", laid_math_bits_deBruijn64tab)], narrowed := true }
def PlausbisimMinimizeUptoSaid : Prop := plausbisimMinimizeUptoRow.holds Tryz.pinned (OpenSpec.upto plausbisimMinimizeSpec)

/-- 'wittinglaw35.PlausbisimFormulas', WHERE WHAT IT READS IS OF BULK AT MOST 1048576: true; the input reads as it did. -/
def plausbisimFormulasUptoRow : OpenClaim := { program := "ytmnbcipineblbaagreatdoor", sum := "54b9a4399d45d3b6249f67f155e063bc06bb8e4aacc7fd274eb22f79a32a5c77", func := "witting/wittinglaw35.PlausbisimFormulas", spec := "plausbisimFormulas", unfollowed := true, recurses := true, named := ["math/bits.deBruijn64tab"], plainKeys := false, apart := false, laid := [("math/bits.deBruijn64tab", laid_math_bits_deBruijn64tab)], narrowed := true }
def PlausbisimFormulasUptoSaid : Prop := plausbisimFormulasUptoRow.holds Tryz.pinned (OpenSpec.upto plausbisimFormulasSpec)

/-- 'wittinglaw35.PlausbisimSatisfies', WHERE WHAT IT READS IS OF BULK AT MOST 1048576: true; the input reads as it did. -/
def plausbisimSatisfiesUptoRow : OpenClaim := { program := "ytmnbcipineblbaagreatdoor", sum := "54b9a4399d45d3b6249f67f155e063bc06bb8e4aacc7fd274eb22f79a32a5c77", func := "witting/wittinglaw35.PlausbisimSatisfies", spec := "plausbisimSatisfies", unfollowed := true, recurses := true, named := ["math/bits.deBruijn64tab"], plainKeys := false, apart := false, laid := [("math/bits.deBruijn64tab", laid_math_bits_deBruijn64tab)], narrowed := true }
def PlausbisimSatisfiesUptoSaid : Prop := plausbisimSatisfiesUptoRow.holds Tryz.pinned (OpenSpec.upto plausbisimSatisfiesSpec)

/-- 'wittinglaw35.PlausbisimQuotient', WHERE WHAT IT READS IS OF BULK AT MOST 1048576: true; the input reads as it did. -/
def plausbisimQuotientUptoRow : OpenClaim := { program := "ytmnbcipineblbaagreatdoor", sum := "54b9a4399d45d3b6249f67f155e063bc06bb8e4aacc7fd274eb22f79a32a5c77", func := "witting/wittinglaw35.PlausbisimQuotient", spec := "plausbisimQuotient", unfollowed := true, recurses := true, named := ["math/bits.deBruijn64tab"], plainKeys := false, apart := false, laid := [("math/bits.deBruijn64tab", laid_math_bits_deBruijn64tab)], narrowed := true }
def PlausbisimQuotientUptoSaid : Prop := plausbisimQuotientUptoRow.holds Tryz.pinned (OpenSpec.upto plausbisimQuotientSpec)

/-- 'wittinglaw35.PlausbisimMinimal', WHERE WHAT IT READS IS OF BULK AT MOST 1048576: true; the input reads as it did. -/
def plausbisimMinimalUptoRow : OpenClaim := { program := "ytmnbcipineblbaagreatdoor", sum := "54b9a4399d45d3b6249f67f155e063bc06bb8e4aacc7fd274eb22f79a32a5c77", func := "witting/wittinglaw35.PlausbisimMinimal", spec := "plausbisimMinimal", unfollowed := true, recurses := true, named := ["math/bits.deBruijn64tab"], plainKeys := false, apart := false, laid := [("math/bits.deBruijn64tab", laid_math_bits_deBruijn64tab)], narrowed := true }
def PlausbisimMinimalUptoSaid : Prop := plausbisimMinimalUptoRow.holds Tryz.pinned (OpenSpec.upto plausbisimMinimalSpec)

/-- 'wittinglaw35.PlausbisimRanks', WHERE WHAT IT READS IS OF BULK AT MOST 1048576: true; the input reads as it did. -/
def plausbisimRanksUptoRow : OpenClaim := { program := "ytmnbcipineblbaagreatdoor", sum := "54b9a4399d45d3b6249f67f155e063bc06bb8e4aacc7fd274eb22f79a32a5c77", func := "witting/wittinglaw35.PlausbisimRanks", spec := "plausbisimRanks", unfollowed := true, recurses := true, named := ["math/bits.deBruijn64tab"], plainKeys := false, apart := false, laid := [("math/bits.deBruijn64tab", laid_math_bits_deBruijn64tab)], narrowed := true }
def PlausbisimRanksUptoSaid : Prop := plausbisimRanksUptoRow.holds Tryz.pinned (OpenSpec.upto plausbisimRanksSpec)

end Rows
end Go.Proofs.YtmnbcipineblbaaGreatDoor
