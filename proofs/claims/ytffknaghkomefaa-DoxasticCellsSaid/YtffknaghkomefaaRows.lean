/-
  No cell of these rows narrows 'for every input' (looked for: loops, veiled, ifaces, maps, wideKeys, modest, calm, conditions, laid).
  DERIVED. THE GIVEN ROWS OF THIS SEAT. 7 by the template 'for every input the law returns true; each argument reads behind the call as it read before'; 0 by the template 'total and deterministic' (their statements: YtffknaghkomefaaTotals.lean).
  GIVEN WITH THE SEED: the statements are not yours to turn. If you find one false, say at which input.
  Laid BY PROGRAM, IN A SANDBOX (cutbox-rows.mjs): the forced cells as the released guide's own fill.sh prints them over the translation fa01af5b56561005… (all of the seat's roots in one cut). By AI agents, Wed Nov 11 2026. No macro, syntax, notation, axiom, sorry.
-/
import Derived.Test.YtffknaghkomefaaChecked
import GoSem.Claim
import GoSem.ClaimJoined
import GoSem.ClaimMapViews
import Derived.JoinedTies
import Derived.KernelRfl
namespace Go.Proofs.Ytffknaghkomefaa
/- THE CELL 'sum', in the pinned program and in every row, IS THE sha256 OF THE DUMP (.gsa) THAT YtffknaghkomefaaProg.lean LOADS. Nothing in Lean hashes anything: it is a label: what it is worth is what the hold of that sum in a sandbox is worth. -/
noncomputable def Try.pinned : Pinned := { name := "ytffknaghkomefaa", sum := "fa01af5b56561005b4a405e12af3e786dc8edd43ce9f5091389faa88eef331ca", checked := Try.checked }
namespace Rows
def none {H : Type} : Left H := { results := [], args := [] }

/-- 'wittinglaw34.DoxasticSets': WHATEVER THE INPUT: true; the input reads as it did. -/
def doxasticSetsSpec : ChangeSpec := { name := "doxasticSets", fn := fun _ => fun
  | [d1, d2] => { results := [.lit (.bool true)], args := [d1, d2] }
  | _ => none }
def doxasticSetsRow : OpenClaim := { program := "ytffknaghkomefaa", sum := "fa01af5b56561005b4a405e12af3e786dc8edd43ce9f5091389faa88eef331ca", func := "witting/wittinglaw34.DoxasticSets", spec := "doxasticSets", unfollowed := true, recurses := true, plainKeys := false, apart := false }
def DoxasticSetsSaid : Prop := doxasticSetsRow.holds Try.pinned (OpenSpec.ofChange doxasticSetsSpec)

/-- ITS FALSE NEIGHBOUR: 'it returns false'. Refute it at one input. -/
def doxasticSetsWrong : ChangeSpec := { name := "doxasticSets", fn := fun _ => fun
  | [d1, d2] => { results := [.lit (.bool false)], args := [d1, d2] }
  | _ => none }
def DoxasticSetsWrongFalsely : Prop := doxasticSetsRow.holds Try.pinned (OpenSpec.ofChange doxasticSetsWrong)

/-- 'wittinglaw34.DoxasticOrders': WHATEVER THE INPUT: true; the input reads as it did. -/
def doxasticOrdersSpec : ChangeSpec := { name := "doxasticOrders", fn := fun _ => fun
  | [d1, d2, d3] => { results := [.lit (.bool true)], args := [d1, d2, d3] }
  | _ => none }
def doxasticOrdersRow : OpenClaim := { program := "ytffknaghkomefaa", sum := "fa01af5b56561005b4a405e12af3e786dc8edd43ce9f5091389faa88eef331ca", func := "witting/wittinglaw34.DoxasticOrders", spec := "doxasticOrders", unfollowed := true, recurses := true, plainKeys := false, apart := false }
def DoxasticOrdersSaid : Prop := doxasticOrdersRow.holds Try.pinned (OpenSpec.ofChange doxasticOrdersSpec)

/-- ITS FALSE NEIGHBOUR: 'it returns false'. Refute it at one input. -/
def doxasticOrdersWrong : ChangeSpec := { name := "doxasticOrders", fn := fun _ => fun
  | [d1, d2, d3] => { results := [.lit (.bool false)], args := [d1, d2, d3] }
  | _ => none }
def DoxasticOrdersWrongFalsely : Prop := doxasticOrdersRow.holds Try.pinned (OpenSpec.ofChange doxasticOrdersWrong)

/-- 'wittinglaw34.DoxasticIntrospects': WHATEVER THE INPUT: true; the input reads as it did. -/
def doxasticIntrospectsSpec : ChangeSpec := { name := "doxasticIntrospects", fn := fun _ => fun
  | [d1, d2, d3] => { results := [.lit (.bool true)], args := [d1, d2, d3] }
  | _ => none }
def doxasticIntrospectsRow : OpenClaim := { program := "ytffknaghkomefaa", sum := "fa01af5b56561005b4a405e12af3e786dc8edd43ce9f5091389faa88eef331ca", func := "witting/wittinglaw34.DoxasticIntrospects", spec := "doxasticIntrospects", unfollowed := true, recurses := true, plainKeys := false, apart := false }
def DoxasticIntrospectsSaid : Prop := doxasticIntrospectsRow.holds Try.pinned (OpenSpec.ofChange doxasticIntrospectsSpec)

/-- ITS FALSE NEIGHBOUR: 'it returns false'. Refute it at one input. -/
def doxasticIntrospectsWrong : ChangeSpec := { name := "doxasticIntrospects", fn := fun _ => fun
  | [d1, d2, d3] => { results := [.lit (.bool false)], args := [d1, d2, d3] }
  | _ => none }
def DoxasticIntrospectsWrongFalsely : Prop := doxasticIntrospectsRow.holds Try.pinned (OpenSpec.ofChange doxasticIntrospectsWrong)

/-- 'wittinglaw34.DoxasticRational': WHATEVER THE INPUT: true; the input reads as it did. -/
def doxasticRationalSpec : ChangeSpec := { name := "doxasticRational", fn := fun _ => fun
  | [d1, d2] => { results := [.lit (.bool true)], args := [d1, d2] }
  | _ => none }
def doxasticRationalRow : OpenClaim := { program := "ytffknaghkomefaa", sum := "fa01af5b56561005b4a405e12af3e786dc8edd43ce9f5091389faa88eef331ca", func := "witting/wittinglaw34.DoxasticRational", spec := "doxasticRational", unfollowed := true, recurses := true, plainKeys := false, apart := false }
def DoxasticRationalSaid : Prop := doxasticRationalRow.holds Try.pinned (OpenSpec.ofChange doxasticRationalSpec)

/-- ITS FALSE NEIGHBOUR: 'it returns false'. Refute it at one input. -/
def doxasticRationalWrong : ChangeSpec := { name := "doxasticRational", fn := fun _ => fun
  | [d1, d2] => { results := [.lit (.bool false)], args := [d1, d2] }
  | _ => none }
def DoxasticRationalWrongFalsely : Prop := doxasticRationalRow.holds Try.pinned (OpenSpec.ofChange doxasticRationalWrong)

/-- 'wittinglaw34.DoxasticStrong': WHATEVER THE INPUT: true; the input reads as it did. -/
def doxasticStrongSpec : ChangeSpec := { name := "doxasticStrong", fn := fun _ => fun
  | [d1, d2] => { results := [.lit (.bool true)], args := [d1, d2] }
  | _ => none }
def doxasticStrongRow : OpenClaim := { program := "ytffknaghkomefaa", sum := "fa01af5b56561005b4a405e12af3e786dc8edd43ce9f5091389faa88eef331ca", func := "witting/wittinglaw34.DoxasticStrong", spec := "doxasticStrong", unfollowed := true, recurses := true, plainKeys := false, apart := false }
def DoxasticStrongSaid : Prop := doxasticStrongRow.holds Try.pinned (OpenSpec.ofChange doxasticStrongSpec)

/-- ITS FALSE NEIGHBOUR: 'it returns false'. Refute it at one input. -/
def doxasticStrongWrong : ChangeSpec := { name := "doxasticStrong", fn := fun _ => fun
  | [d1, d2] => { results := [.lit (.bool false)], args := [d1, d2] }
  | _ => none }
def DoxasticStrongWrongFalsely : Prop := doxasticStrongRow.holds Try.pinned (OpenSpec.ofChange doxasticStrongWrong)

/-- 'wittinglaw34.DoxasticCells': WHATEVER THE INPUT: true; the input reads as it did. -/
def doxasticCellsSpec : ChangeSpec := { name := "doxasticCells", fn := fun _ => fun
  | [d1, d2] => { results := [.lit (.bool true)], args := [d1, d2] }
  | _ => none }
def doxasticCellsRow : OpenClaim := { program := "ytffknaghkomefaa", sum := "fa01af5b56561005b4a405e12af3e786dc8edd43ce9f5091389faa88eef331ca", func := "witting/wittinglaw34.DoxasticCells", spec := "doxasticCells", unfollowed := true, recurses := true, plainKeys := false, apart := false }
def DoxasticCellsSaid : Prop := doxasticCellsRow.holds Try.pinned (OpenSpec.ofChange doxasticCellsSpec)

/-- ITS FALSE NEIGHBOUR: 'it returns false'. Refute it at one input. -/
def doxasticCellsWrong : ChangeSpec := { name := "doxasticCells", fn := fun _ => fun
  | [d1, d2] => { results := [.lit (.bool false)], args := [d1, d2] }
  | _ => none }
def DoxasticCellsWrongFalsely : Prop := doxasticCellsRow.holds Try.pinned (OpenSpec.ofChange doxasticCellsWrong)

/-- 'wittinglaw34.DoxasticDefines': WHATEVER THE INPUT: true; the input reads as it did. -/
def doxasticDefinesSpec : ChangeSpec := { name := "doxasticDefines", fn := fun _ => fun
  | [d1, d2, d3] => { results := [.lit (.bool true)], args := [d1, d2, d3] }
  | _ => none }
def doxasticDefinesRow : OpenClaim := { program := "ytffknaghkomefaa", sum := "fa01af5b56561005b4a405e12af3e786dc8edd43ce9f5091389faa88eef331ca", func := "witting/wittinglaw34.DoxasticDefines", spec := "doxasticDefines", unfollowed := true, recurses := true, plainKeys := false, apart := false }
def DoxasticDefinesSaid : Prop := doxasticDefinesRow.holds Try.pinned (OpenSpec.ofChange doxasticDefinesSpec)

/-- ITS FALSE NEIGHBOUR: 'it returns false'. Refute it at one input. -/
def doxasticDefinesWrong : ChangeSpec := { name := "doxasticDefines", fn := fun _ => fun
  | [d1, d2, d3] => { results := [.lit (.bool false)], args := [d1, d2, d3] }
  | _ => none }
def DoxasticDefinesWrongFalsely : Prop := doxasticDefinesRow.holds Try.pinned (OpenSpec.ofChange doxasticDefinesWrong)

/- THE SECOND FORM. 'bulk': how many values and letters a reading holds, each counted each time it is reached (what is shared counts as often as it is met; a slice's spare places count too). A statement '..UptoSaid' is the law's where the arguments, and the package variables that the reading takes, are together of bulk at most 1048576: NARROWER than '..Said'. Prove '..Said' where nothing that the law and all that it calls make is longer than what came in: it says more and counts as full. Else prove '..UptoSaid'. A law counts once. -/
mutual
def uptoBulk {H : Type} : DataW H → Nat
  | .lit (.string bytes) => bytes.length + 1
  | .lit _ => 1
  | .nil => 1
  | .ptr d => uptoBulk d + 1
  | .slice elems spare => uptoBulkAll elems + uptoBulkAll spare + 1
  | .agg parts => uptoBulkAll parts + 1
  | .iface _ d => uptoBulk d + 1
  | .map entries => uptoBulkEntries entries + 1
  | .held _ => 1
def uptoBulkAll {H : Type} : List (DataW H) → Nat
  | [] => 0
  | d :: r => uptoBulk d + uptoBulkAll r
def uptoBulkEntries {H : Type} : List (Lit × DataW H) → Nat
  | [] => 0
  | x :: r => uptoBulkEntry x + uptoBulkEntries r
def uptoBulkEntry {H : Type} : Lit × DataW H → Nat
  | (.string bytes, d) => bytes.length + uptoBulk d + 1
  | (_, d) => uptoBulk d + 1
 end
def uptoSmall : (H : Type) → List (DataW H) → Bool := fun _ ds => decide (uptoBulkAll ds ≤ 1048576)
def OpenSpec.upto (s : _root_.Go.ChangeSpec) : _root_.Go.OpenSpec := { _root_.Go.OpenSpec.ofChange s with cond := some uptoSmall }

/-- 'wittinglaw34.DoxasticSets', WHERE WHAT IT READS IS OF BULK AT MOST 1048576: true; the input reads as it did. -/
def doxasticSetsUptoRow : OpenClaim := { program := "ytffknaghkomefaa", sum := "fa01af5b56561005b4a405e12af3e786dc8edd43ce9f5091389faa88eef331ca", func := "witting/wittinglaw34.DoxasticSets", spec := "doxasticSets", unfollowed := true, recurses := true, plainKeys := false, apart := false, narrowed := true }
def DoxasticSetsUptoSaid : Prop := doxasticSetsUptoRow.holds Try.pinned (OpenSpec.upto doxasticSetsSpec)

/-- 'wittinglaw34.DoxasticOrders', WHERE WHAT IT READS IS OF BULK AT MOST 1048576: true; the input reads as it did. -/
def doxasticOrdersUptoRow : OpenClaim := { program := "ytffknaghkomefaa", sum := "fa01af5b56561005b4a405e12af3e786dc8edd43ce9f5091389faa88eef331ca", func := "witting/wittinglaw34.DoxasticOrders", spec := "doxasticOrders", unfollowed := true, recurses := true, plainKeys := false, apart := false, narrowed := true }
def DoxasticOrdersUptoSaid : Prop := doxasticOrdersUptoRow.holds Try.pinned (OpenSpec.upto doxasticOrdersSpec)

/-- 'wittinglaw34.DoxasticIntrospects', WHERE WHAT IT READS IS OF BULK AT MOST 1048576: true; the input reads as it did. -/
def doxasticIntrospectsUptoRow : OpenClaim := { program := "ytffknaghkomefaa", sum := "fa01af5b56561005b4a405e12af3e786dc8edd43ce9f5091389faa88eef331ca", func := "witting/wittinglaw34.DoxasticIntrospects", spec := "doxasticIntrospects", unfollowed := true, recurses := true, plainKeys := false, apart := false, narrowed := true }
def DoxasticIntrospectsUptoSaid : Prop := doxasticIntrospectsUptoRow.holds Try.pinned (OpenSpec.upto doxasticIntrospectsSpec)

/-- 'wittinglaw34.DoxasticRational', WHERE WHAT IT READS IS OF BULK AT MOST 1048576: true; the input reads as it did. -/
def doxasticRationalUptoRow : OpenClaim := { program := "ytffknaghkomefaa", sum := "fa01af5b56561005b4a405e12af3e786dc8edd43ce9f5091389faa88eef331ca", func := "witting/wittinglaw34.DoxasticRational", spec := "doxasticRational", unfollowed := true, recurses := true, plainKeys := false, apart := false, narrowed := true }
def DoxasticRationalUptoSaid : Prop := doxasticRationalUptoRow.holds Try.pinned (OpenSpec.upto doxasticRationalSpec)

/-- 'wittinglaw34.DoxasticStrong', WHERE WHAT IT READS IS OF BULK AT MOST 1048576: true; the input reads as it did. -/
def doxasticStrongUptoRow : OpenClaim := { program := "ytffknaghkomefaa", sum := "fa01af5b56561005b4a405e12af3e786dc8edd43ce9f5091389faa88eef331ca", func := "witting/wittinglaw34.DoxasticStrong", spec := "doxasticStrong", unfollowed := true, recurses := true, plainKeys := false, apart := false, narrowed := true }
def DoxasticStrongUptoSaid : Prop := doxasticStrongUptoRow.holds Try.pinned (OpenSpec.upto doxasticStrongSpec)

/-- 'wittinglaw34.DoxasticCells', WHERE WHAT IT READS IS OF BULK AT MOST 1048576: true; the input reads as it did. -/
def doxasticCellsUptoRow : OpenClaim := { program := "ytffknaghkomefaa", sum := "fa01af5b56561005b4a405e12af3e786dc8edd43ce9f5091389faa88eef331ca", func := "witting/wittinglaw34.DoxasticCells", spec := "doxasticCells", unfollowed := true, recurses := true, plainKeys := false, apart := false, narrowed := true }
def DoxasticCellsUptoSaid : Prop := doxasticCellsUptoRow.holds Try.pinned (OpenSpec.upto doxasticCellsSpec)

/-- 'wittinglaw34.DoxasticDefines', WHERE WHAT IT READS IS OF BULK AT MOST 1048576: true; the input reads as it did. -/
def doxasticDefinesUptoRow : OpenClaim := { program := "ytffknaghkomefaa", sum := "fa01af5b56561005b4a405e12af3e786dc8edd43ce9f5091389faa88eef331ca", func := "witting/wittinglaw34.DoxasticDefines", spec := "doxasticDefines", unfollowed := true, recurses := true, plainKeys := false, apart := false, narrowed := true }
def DoxasticDefinesUptoSaid : Prop := doxasticDefinesUptoRow.holds Try.pinned (OpenSpec.upto doxasticDefinesSpec)

end Rows
end Go.Proofs.Ytffknaghkomefaa
