/-
  No cell of these rows narrows 'for every input' (looked for: loops, veiled, ifaces, maps, wideKeys, modest, calm, conditions, laid).
  DERIVED. THE GIVEN ROWS OF THIS SEAT. 8 by the template 'for every input the law returns true; each argument reads behind the call as it read before'; 0 by the template 'total and deterministic' (their statements: YtmaiaomgcpbccaaGreatTotals.lean).
  GIVEN WITH THE SEED: the statements are not yours to turn. If you find one false, say at which input.
  Laid BY PROGRAM, IN A SANDBOX (cutbox-rows.mjs): the forced cells as the released guide's own fill.sh prints them over the translation 05c7400d3b169ca6… (all of the seat's roots in one cut). By AI agents, Wed Nov 11 2026. No macro, syntax, notation, axiom, sorry.
-/
import Derived.Test.YtmaiaomgcpbccaaGreatChecked
import GoSem.Claim
import GoSem.ClaimJoined
import GoSem.ClaimMapViews
import Derived.JoinedTies
import Derived.KernelRfl
namespace Go.Proofs.YtmaiaomgcpbccaaGreat
/- THE CELL 'sum', in the pinned program and in every row, IS THE sha256 OF THE DUMP (.gsa) THAT YtmaiaomgcpbccaaGreatProg.lean LOADS. Nothing in Lean hashes anything: it is a label: what it is worth is what the hold of that sum in a sandbox is worth. -/
noncomputable def Tryz.pinned : Pinned := { name := "ytmaiaomgcpbccaagreat", sum := "05c7400d3b169ca61ed63357fbd391303e6188bf89d695adfcf8015a189a7945", checked := Tryz.checked }
namespace Rows
def none {H : Type} : Left H := { results := [], args := [] }

/-- 'wittinglaw36.UpgradeOnes': WHATEVER THE INPUT: true; the input reads as it did. -/
def upgradeOnesSpec : ChangeSpec := { name := "upgradeOnes", fn := fun _ => fun
  | [d1, d2] => { results := [.lit (.bool true)], args := [d1, d2] }
  | _ => none }
def upgradeOnesRow : OpenClaim := { program := "ytmaiaomgcpbccaagreat", sum := "05c7400d3b169ca61ed63357fbd391303e6188bf89d695adfcf8015a189a7945", func := "witting/wittinglaw36.UpgradeOnes", spec := "upgradeOnes", unfollowed := true, recurses := true, plainKeys := false, apart := false }
def UpgradeOnesSaid : Prop := upgradeOnesRow.holds Tryz.pinned (OpenSpec.ofChange upgradeOnesSpec)

/-- ITS FALSE NEIGHBOUR: 'it returns false'. Refute it at one input. -/
def upgradeOnesWrong : ChangeSpec := { name := "upgradeOnes", fn := fun _ => fun
  | [d1, d2] => { results := [.lit (.bool false)], args := [d1, d2] }
  | _ => none }
def UpgradeOnesWrongFalsely : Prop := upgradeOnesRow.holds Tryz.pinned (OpenSpec.ofChange upgradeOnesWrong)

/-- 'wittinglaw36.UpgradeSequences': WHATEVER THE INPUT: true; the input reads as it did. -/
def upgradeSequencesSpec : ChangeSpec := { name := "upgradeSequences", fn := fun _ => fun
  | [d1, d2, d3] => { results := [.lit (.bool true)], args := [d1, d2, d3] }
  | _ => none }
def upgradeSequencesRow : OpenClaim := { program := "ytmaiaomgcpbccaagreat", sum := "05c7400d3b169ca61ed63357fbd391303e6188bf89d695adfcf8015a189a7945", func := "witting/wittinglaw36.UpgradeSequences", spec := "upgradeSequences", unfollowed := true, recurses := true, plainKeys := false, apart := false }
def UpgradeSequencesSaid : Prop := upgradeSequencesRow.holds Tryz.pinned (OpenSpec.ofChange upgradeSequencesSpec)

/-- ITS FALSE NEIGHBOUR: 'it returns false'. Refute it at one input. -/
def upgradeSequencesWrong : ChangeSpec := { name := "upgradeSequences", fn := fun _ => fun
  | [d1, d2, d3] => { results := [.lit (.bool false)], args := [d1, d2, d3] }
  | _ => none }
def UpgradeSequencesWrongFalsely : Prop := upgradeSequencesRow.holds Tryz.pinned (OpenSpec.ofChange upgradeSequencesWrong)

/-- 'wittinglaw36.UpgradeKnows': WHATEVER THE INPUT: true; the input reads as it did. -/
def upgradeKnowsSpec : ChangeSpec := { name := "upgradeKnows", fn := fun _ => fun
  | [d1, d2, d3] => { results := [.lit (.bool true)], args := [d1, d2, d3] }
  | _ => none }
def upgradeKnowsRow : OpenClaim := { program := "ytmaiaomgcpbccaagreat", sum := "05c7400d3b169ca61ed63357fbd391303e6188bf89d695adfcf8015a189a7945", func := "witting/wittinglaw36.UpgradeKnows", spec := "upgradeKnows", unfollowed := true, recurses := true, plainKeys := false, apart := false }
def UpgradeKnowsSaid : Prop := upgradeKnowsRow.holds Tryz.pinned (OpenSpec.ofChange upgradeKnowsSpec)

/-- ITS FALSE NEIGHBOUR: 'it returns false'. Refute it at one input. -/
def upgradeKnowsWrong : ChangeSpec := { name := "upgradeKnows", fn := fun _ => fun
  | [d1, d2, d3] => { results := [.lit (.bool false)], args := [d1, d2, d3] }
  | _ => none }
def UpgradeKnowsWrongFalsely : Prop := upgradeKnowsRow.holds Tryz.pinned (OpenSpec.ofChange upgradeKnowsWrong)

/-- 'wittinglaw36.UpgradeHardly': WHATEVER THE INPUT: true; the input reads as it did. -/
def upgradeHardlySpec : ChangeSpec := { name := "upgradeHardly", fn := fun _ => fun
  | [d1, d2, d3] => { results := [.lit (.bool true)], args := [d1, d2, d3] }
  | _ => none }
def upgradeHardlyRow : OpenClaim := { program := "ytmaiaomgcpbccaagreat", sum := "05c7400d3b169ca61ed63357fbd391303e6188bf89d695adfcf8015a189a7945", func := "witting/wittinglaw36.UpgradeHardly", spec := "upgradeHardly", unfollowed := true, recurses := true, plainKeys := false, apart := false }
def UpgradeHardlySaid : Prop := upgradeHardlyRow.holds Tryz.pinned (OpenSpec.ofChange upgradeHardlySpec)

/-- ITS FALSE NEIGHBOUR: 'it returns false'. Refute it at one input. -/
def upgradeHardlyWrong : ChangeSpec := { name := "upgradeHardly", fn := fun _ => fun
  | [d1, d2, d3] => { results := [.lit (.bool false)], args := [d1, d2, d3] }
  | _ => none }
def UpgradeHardlyWrongFalsely : Prop := upgradeHardlyRow.holds Tryz.pinned (OpenSpec.ofChange upgradeHardlyWrong)

/-- 'wittinglaw36.UpgradeConservatively': WHATEVER THE INPUT: true; the input reads as it did. -/
def upgradeConservativelySpec : ChangeSpec := { name := "upgradeConservatively", fn := fun _ => fun
  | [d1, d2, d3] => { results := [.lit (.bool true)], args := [d1, d2, d3] }
  | _ => none }
def upgradeConservativelyRow : OpenClaim := { program := "ytmaiaomgcpbccaagreat", sum := "05c7400d3b169ca61ed63357fbd391303e6188bf89d695adfcf8015a189a7945", func := "witting/wittinglaw36.UpgradeConservatively", spec := "upgradeConservatively", unfollowed := true, recurses := true, plainKeys := false, apart := false }
def UpgradeConservativelySaid : Prop := upgradeConservativelyRow.holds Tryz.pinned (OpenSpec.ofChange upgradeConservativelySpec)

/-- ITS FALSE NEIGHBOUR: 'it returns false'. Refute it at one input. -/
def upgradeConservativelyWrong : ChangeSpec := { name := "upgradeConservatively", fn := fun _ => fun
  | [d1, d2, d3] => { results := [.lit (.bool false)], args := [d1, d2, d3] }
  | _ => none }
def UpgradeConservativelyWrongFalsely : Prop := upgradeConservativelyRow.holds Tryz.pinned (OpenSpec.ofChange upgradeConservativelyWrong)

/-- 'wittinglaw36.UpgradeRadically': WHATEVER THE INPUT: true; the input reads as it did. -/
def upgradeRadicallySpec : ChangeSpec := { name := "upgradeRadically", fn := fun _ => fun
  | [d1, d2, d3] => { results := [.lit (.bool true)], args := [d1, d2, d3] }
  | _ => none }
def upgradeRadicallyRow : OpenClaim := { program := "ytmaiaomgcpbccaagreat", sum := "05c7400d3b169ca61ed63357fbd391303e6188bf89d695adfcf8015a189a7945", func := "witting/wittinglaw36.UpgradeRadically", spec := "upgradeRadically", unfollowed := true, recurses := true, plainKeys := false, apart := false }
def UpgradeRadicallySaid : Prop := upgradeRadicallyRow.holds Tryz.pinned (OpenSpec.ofChange upgradeRadicallySpec)

/-- ITS FALSE NEIGHBOUR: 'it returns false'. Refute it at one input. -/
def upgradeRadicallyWrong : ChangeSpec := { name := "upgradeRadically", fn := fun _ => fun
  | [d1, d2, d3] => { results := [.lit (.bool false)], args := [d1, d2, d3] }
  | _ => none }
def UpgradeRadicallyWrongFalsely : Prop := upgradeRadicallyRow.holds Tryz.pinned (OpenSpec.ofChange upgradeRadicallyWrong)

/-- 'wittinglaw36.UpgradeBelieves': WHATEVER THE INPUT: true; the input reads as it did. -/
def upgradeBelievesSpec : ChangeSpec := { name := "upgradeBelieves", fn := fun _ => fun
  | [d1, d2] => { results := [.lit (.bool true)], args := [d1, d2] }
  | _ => none }
def upgradeBelievesRow : OpenClaim := { program := "ytmaiaomgcpbccaagreat", sum := "05c7400d3b169ca61ed63357fbd391303e6188bf89d695adfcf8015a189a7945", func := "witting/wittinglaw36.UpgradeBelieves", spec := "upgradeBelieves", unfollowed := true, recurses := true, plainKeys := false, apart := false }
def UpgradeBelievesSaid : Prop := upgradeBelievesRow.holds Tryz.pinned (OpenSpec.ofChange upgradeBelievesSpec)

/-- ITS FALSE NEIGHBOUR: 'it returns false'. Refute it at one input. -/
def upgradeBelievesWrong : ChangeSpec := { name := "upgradeBelieves", fn := fun _ => fun
  | [d1, d2] => { results := [.lit (.bool false)], args := [d1, d2] }
  | _ => none }
def UpgradeBelievesWrongFalsely : Prop := upgradeBelievesRow.holds Tryz.pinned (OpenSpec.ofChange upgradeBelievesWrong)

/-- 'wittingtop.TopSafely': WHATEVER THE INPUT: true; the input reads as it did. -/
def topSafelySpec : ChangeSpec := { name := "topSafely", fn := fun _ => fun
  | [d1, d2, d3] => { results := [.lit (.bool true)], args := [d1, d2, d3] }
  | _ => none }
def topSafelyRow : OpenClaim := { program := "ytmaiaomgcpbccaagreat", sum := "05c7400d3b169ca61ed63357fbd391303e6188bf89d695adfcf8015a189a7945", func := "witting/wittingtop.TopSafely", spec := "topSafely", unfollowed := true, recurses := true, plainKeys := false, apart := false }
def TopSafelySaid : Prop := topSafelyRow.holds Tryz.pinned (OpenSpec.ofChange topSafelySpec)

/-- ITS FALSE NEIGHBOUR: 'it returns false'. Refute it at one input. -/
def topSafelyWrong : ChangeSpec := { name := "topSafely", fn := fun _ => fun
  | [d1, d2, d3] => { results := [.lit (.bool false)], args := [d1, d2, d3] }
  | _ => none }
def TopSafelyWrongFalsely : Prop := topSafelyRow.holds Tryz.pinned (OpenSpec.ofChange topSafelyWrong)

/- THE SECOND FORM. 'bulk': how many values and letters a reading holds, each counted each time it is reached (what is shared counts as often as it is met; a slice's spare places count too). A statement '..UptoSaid' is the law's where the arguments, and the package variables that the reading takes, are together of bulk at most 1048576: NARROWER than '..Said'. Prove '..Said' where nothing that the law and all that it calls make is longer than what came in: it says more and counts as full. Else prove '..UptoSaid'. A law counts once. -/
mutual
def uptoBulk {H : Type} : DataW H → Nat
  | .lit (.string bytes) => bytes.length + 1
  | .lit _ => 1
  | .nil => 1
  | .ptr d => uptoBulk d + 1
  | .slice elems spare => uptoBulkAll elems + uptoBulkAll spare + 1
  | .agg parts => uptoBulkAll parts + 1
  | .iface _ d => uptoBulk d + 1
  | .map entries => uptoBulkEntries entries + 1
  | .held _ => 1
def uptoBulkAll {H : Type} : List (DataW H) → Nat
  | [] => 0
  | d :: r => uptoBulk d + uptoBulkAll r
def uptoBulkEntries {H : Type} : List (Lit × DataW H) → Nat
  | [] => 0
  | x :: r => uptoBulkEntry x + uptoBulkEntries r
def uptoBulkEntry {H : Type} : Lit × DataW H → Nat
  | (.string bytes, d) => bytes.length + uptoBulk d + 1
  | (_, d) => uptoBulk d + 1
 end
def uptoSmall : (H : Type) → List (DataW H) → Bool := fun _ ds => decide (uptoBulkAll ds ≤ 1048576)
def OpenSpec.upto (s : _root_.Go.ChangeSpec) : _root_.Go.OpenSpec := { _root_.Go.OpenSpec.ofChange s with cond := some uptoSmall }

/-- 'wittinglaw36.UpgradeOnes', WHERE WHAT IT READS IS OF BULK AT MOST 1048576: true; the input reads as it did. -/
def upgradeOnesUptoRow : OpenClaim := { program := "ytmaiaomgcpbccaagreat", sum := "05c7400d3b169ca61ed63357fbd391303e6188bf89d695adfcf8015a189a7945", func := "witting/wittinglaw36.UpgradeOnes", spec := "upgradeOnes", unfollowed := true, recurses := true, plainKeys := false, apart := false, narrowed := true }
def UpgradeOnesUptoSaid : Prop := upgradeOnesUptoRow.holds Tryz.pinned (OpenSpec.upto upgradeOnesSpec)

/-- 'wittinglaw36.UpgradeSequences', WHERE WHAT IT READS IS OF BULK AT MOST 1048576: true; the input reads as it did. -/
def upgradeSequencesUptoRow : OpenClaim := { program := "ytmaiaomgcpbccaagreat", sum := "05c7400d3b169ca61ed63357fbd391303e6188bf89d695adfcf8015a189a7945", func := "witting/wittinglaw36.UpgradeSequences", spec := "upgradeSequences", unfollowed := true, recurses := true, plainKeys := false, apart := false, narrowed := true }
def UpgradeSequencesUptoSaid : Prop := upgradeSequencesUptoRow.holds Tryz.pinned (OpenSpec.upto upgradeSequencesSpec)

/-- 'wittinglaw36.UpgradeKnows', WHERE WHAT IT READS IS OF BULK AT MOST 1048576: true; the input reads as it did. -/
def upgradeKnowsUptoRow : OpenClaim := { program := "ytmaiaomgcpbccaagreat", sum := "05c7400d3b169ca61ed63357fbd391303e6188bf89d695adfcf8015a189a7945", func := "witting/wittinglaw36.UpgradeKnows", spec := "upgradeKnows", unfollowed := true, recurses := true, plainKeys := false, apart := false, narrowed := true }
def UpgradeKnowsUptoSaid : Prop := upgradeKnowsUptoRow.holds Tryz.pinned (OpenSpec.upto upgradeKnowsSpec)

/-- 'wittinglaw36.UpgradeHardly', WHERE WHAT IT READS IS OF BULK AT MOST 1048576: true; the input reads as it did. -/
def upgradeHardlyUptoRow : OpenClaim := { program := "ytmaiaomgcpbccaagreat", sum := "05c7400d3b169ca61ed63357fbd391303e6188bf89d695adfcf8015a189a7945", func := "witting/wittinglaw36.UpgradeHardly", spec := "upgradeHardly", unfollowed := true, recurses := true, plainKeys := false, apart := false, narrowed := true }
def UpgradeHardlyUptoSaid : Prop := upgradeHardlyUptoRow.holds Tryz.pinned (OpenSpec.upto upgradeHardlySpec)

/-- 'wittinglaw36.UpgradeConservatively', WHERE WHAT IT READS IS OF BULK AT MOST 1048576: true; the input reads as it did. -/
def upgradeConservativelyUptoRow : OpenClaim := { program := "ytmaiaomgcpbccaagreat", sum := "05c7400d3b169ca61ed63357fbd391303e6188bf89d695adfcf8015a189a7945", func := "witting/wittinglaw36.UpgradeConservatively", spec := "upgradeConservatively", unfollowed := true, recurses := true, plainKeys := false, apart := false, narrowed := true }
def UpgradeConservativelyUptoSaid : Prop := upgradeConservativelyUptoRow.holds Tryz.pinned (OpenSpec.upto upgradeConservativelySpec)

/-- 'wittinglaw36.UpgradeRadically', WHERE WHAT IT READS IS OF BULK AT MOST 1048576: true; the input reads as it did. -/
def upgradeRadicallyUptoRow : OpenClaim := { program := "ytmaiaomgcpbccaagreat", sum := "05c7400d3b169ca61ed63357fbd391303e6188bf89d695adfcf8015a189a7945", func := "witting/wittinglaw36.UpgradeRadically", spec := "upgradeRadically", unfollowed := true, recurses := true, plainKeys := false, apart := false, narrowed := true }
def UpgradeRadicallyUptoSaid : Prop := upgradeRadicallyUptoRow.holds Tryz.pinned (OpenSpec.upto upgradeRadicallySpec)

/-- 'wittinglaw36.UpgradeBelieves', WHERE WHAT IT READS IS OF BULK AT MOST 1048576: true; the input reads as it did. -/
def upgradeBelievesUptoRow : OpenClaim := { program := "ytmaiaomgcpbccaagreat", sum := "05c7400d3b169ca61ed63357fbd391303e6188bf89d695adfcf8015a189a7945", func := "witting/wittinglaw36.UpgradeBelieves", spec := "upgradeBelieves", unfollowed := true, recurses := true, plainKeys := false, apart := false, narrowed := true }
def UpgradeBelievesUptoSaid : Prop := upgradeBelievesUptoRow.holds Tryz.pinned (OpenSpec.upto upgradeBelievesSpec)

/-- 'wittingtop.TopSafely', WHERE WHAT IT READS IS OF BULK AT MOST 1048576: true; the input reads as it did. -/
def topSafelyUptoRow : OpenClaim := { program := "ytmaiaomgcpbccaagreat", sum := "05c7400d3b169ca61ed63357fbd391303e6188bf89d695adfcf8015a189a7945", func := "witting/wittingtop.TopSafely", spec := "topSafely", unfollowed := true, recurses := true, plainKeys := false, apart := false, narrowed := true }
def TopSafelyUptoSaid : Prop := topSafelyUptoRow.holds Tryz.pinned (OpenSpec.upto topSafelySpec)

end Rows
end Go.Proofs.YtmaiaomgcpbccaaGreat
