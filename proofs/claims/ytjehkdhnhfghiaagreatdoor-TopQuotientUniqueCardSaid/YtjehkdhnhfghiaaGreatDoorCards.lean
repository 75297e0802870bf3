/-
  DERIVED. GIVEN WITH THE SEED: THE CARDS: each row of YtjehkdhnhfghiaaGreatDoorRows.lean that lists a variable, with what it lists TIED to the program's text (the seventh form; the later family's looks); each row that meets fmt, with fmt's text TOLD by the authors' own Lean function (tested against real Go, not proved from fmt's source: count such statements apart). THE CARD IS WHAT COUNTS. Prove the row's statement (the work); the ties are given (YtjehkdhnhfghiaaGreatDoorTie.lean); close each card by the builder's one call (the guide's Derived/Test/ToyasCard.lean, 'card_holds'). Laid BY PROGRAM, IN A SANDBOX (cutbox-door.mjs). By AI agents, Wed Nov 11 2026. No macro, syntax, notation, axiom, sorry.
-/
import Derived.Test.YtjehkdhnhfghiaaGreatDoorRows
import GoSem.ClaimSeven
namespace Go.Proofs.YtjehkdhnhfghiaaGreatDoor
namespace Rows

/-- THE TIED CARD OF 'wittingtop.TopQuotientUnique'. -/
def topQuotientUniqueCard : Claim7 := { stood := { row := topQuotientUniqueRow, standIns := [], harness := (true, "8d566f0265d904fd78765531ba56d84e46aac9efdae886bb35f471103bd136f7"), looks := false }, kinds := [], alts := [], laidByText := true, laidKinds := [.data, .data, .data], laidTests := true, laidLooks := .later }
def TopQuotientUniqueCardSaid : Prop := Claim7.holds Tryz.pinned (.plain (OpenSpec.ofChange topQuotientUniqueSpec)) topQuotientUniqueCard

/-- THE TIED CARD OF 'wittinglaw20.QuotientBy'. -/
def quotientByCard : Claim7 := { stood := { row := quotientByRow, standIns := [], harness := (true, "8d566f0265d904fd78765531ba56d84e46aac9efdae886bb35f471103bd136f7"), looks := false }, kinds := [], alts := [], laidByText := true, laidKinds := [.data, .data, .data], laidTests := true, laidLooks := .later }
def QuotientByCardSaid : Prop := Claim7.holds Tryz.pinned (.plain (OpenSpec.ofChange quotientBySpec)) quotientByCard

/-- THE TIED CARD OF 'wittinglaw20.QuotientBisimilar'. -/
def quotientBisimilarCard : Claim7 := { stood := { row := quotientBisimilarRow, standIns := [], harness := (true, "8d566f0265d904fd78765531ba56d84e46aac9efdae886bb35f471103bd136f7"), looks := false }, kinds := [], alts := [], laidByText := true, laidKinds := [.data, .data, .data], laidTests := true, laidLooks := .later }
def QuotientBisimilarCardSaid : Prop := Claim7.holds Tryz.pinned (.plain (OpenSpec.ofChange quotientBisimilarSpec)) quotientBisimilarCard

/-- THE TIED CARD OF 'wittinglaw20.QuotientFrames'. -/
def quotientFramesCard : Claim7 := { stood := { row := quotientFramesRow, standIns := [], harness := (true, "8d566f0265d904fd78765531ba56d84e46aac9efdae886bb35f471103bd136f7"), looks := false }, kinds := [], alts := [], laidByText := true, laidKinds := [.data, .data, .data], laidTests := true, laidLooks := .later }
def QuotientFramesCardSaid : Prop := Claim7.holds Tryz.pinned (.plain (OpenSpec.ofChange quotientFramesSpec)) quotientFramesCard

/-- THE TIED CARD OF 'wittinglaw20.QuotientRenamed'. -/
def quotientRenamedCard : Claim7 := { stood := { row := quotientRenamedRow, standIns := [], harness := (true, "8d566f0265d904fd78765531ba56d84e46aac9efdae886bb35f471103bd136f7"), looks := false }, kinds := [], alts := [], laidByText := true, laidKinds := [.data, .data, .data], laidTests := true, laidLooks := .later }
def QuotientRenamedCardSaid : Prop := Claim7.holds Tryz.pinned (.plain (OpenSpec.ofChange quotientRenamedSpec)) quotientRenamedCard

/-- THE TIED CARD OF 'wittinglaw20.QuotientPoints'. -/
def quotientPointsCard : Claim7 := { stood := { row := quotientPointsRow, standIns := [], harness := (true, "8d566f0265d904fd78765531ba56d84e46aac9efdae886bb35f471103bd136f7"), looks := false }, kinds := [], alts := [], laidByText := true, laidKinds := [.data, .data, .data], laidTests := true, laidLooks := .later }
def QuotientPointsCardSaid : Prop := Claim7.holds Tryz.pinned (.plain (OpenSpec.ofChange quotientPointsSpec)) quotientPointsCard

/-- THE TIED CARD OF 'wittinglaw20.QuotientSame'. -/
def quotientSameCard : Claim7 := { stood := { row := quotientSameRow, standIns := [], harness := (true, "8d566f0265d904fd78765531ba56d84e46aac9efdae886bb35f471103bd136f7"), looks := false }, kinds := [], alts := [], laidByText := true, laidKinds := [.data, .data, .data], laidTests := true, laidLooks := .later }
def QuotientSameCardSaid : Prop := Claim7.holds Tryz.pinned (.plain (OpenSpec.ofChange quotientSameSpec)) quotientSameCard

/-- THE TIED CARD OF 'wittinglaw20.QuotientDecides'. -/
def quotientDecidesCard : Claim7 := { stood := { row := quotientDecidesRow, standIns := [], harness := (true, "8d566f0265d904fd78765531ba56d84e46aac9efdae886bb35f471103bd136f7"), looks := false }, kinds := [], alts := [], laidByText := true, laidKinds := [.data, .data, .data], laidTests := true, laidLooks := .later }
def QuotientDecidesCardSaid : Prop := Claim7.holds Tryz.pinned (.plain (OpenSpec.ofChange quotientDecidesSpec)) quotientDecidesCard

/-- THE TIED CARD OF 'wittinglaw20.QuotientTruth'. -/
def quotientTruthCard : Claim7 := { stood := { row := quotientTruthRow, standIns := [], harness := (true, "8d566f0265d904fd78765531ba56d84e46aac9efdae886bb35f471103bd136f7"), looks := false }, kinds := [], alts := [], laidByText := true, laidKinds := [.data, .data, .data], laidTests := true, laidLooks := .later }
def QuotientTruthCardSaid : Prop := Claim7.holds Tryz.pinned (.plain (OpenSpec.ofChange quotientTruthSpec)) quotientTruthCard

/-- THE TIED CARD OF 'wittingtop.TopCanonicalTells'. -/
def topCanonicalTellsCard : Claim7 := { stood := { row := topCanonicalTellsRow, standIns := [], harness := (true, "8d566f0265d904fd78765531ba56d84e46aac9efdae886bb35f471103bd136f7"), looks := false }, kinds := [], alts := [], laidByText := true, laidKinds := [.data, .data, .data], laidTests := true, laidLooks := .later }
def TopCanonicalTellsCardSaid : Prop := Claim7.holds Tryz.pinned (.plain (OpenSpec.ofChange topCanonicalTellsSpec)) topCanonicalTellsCard

/-- THE SECOND FORM's CARD OF 'wittingtop.TopQuotientUnique'. -/
def topQuotientUniqueUptoCard : Claim7 := { stood := { row := topQuotientUniqueUptoRow, standIns := [], harness := (true, "8d566f0265d904fd78765531ba56d84e46aac9efdae886bb35f471103bd136f7"), looks := false }, kinds := [], alts := [], laidByText := true, laidKinds := [.data, .data, .data], laidTests := true, laidLooks := .later }
def TopQuotientUniqueUptoCardSaid : Prop := Claim7.holds Tryz.pinned (.plain (OpenSpec.upto topQuotientUniqueSpec)) topQuotientUniqueUptoCard

/-- THE SECOND FORM's CARD OF 'wittinglaw20.QuotientBy'. -/
def quotientByUptoCard : Claim7 := { stood := { row := quotientByUptoRow, standIns := [], harness := (true, "8d566f0265d904fd78765531ba56d84e46aac9efdae886bb35f471103bd136f7"), looks := false }, kinds := [], alts := [], laidByText := true, laidKinds := [.data, .data, .data], laidTests := true, laidLooks := .later }
def QuotientByUptoCardSaid : Prop := Claim7.holds Tryz.pinned (.plain (OpenSpec.upto quotientBySpec)) quotientByUptoCard

/-- THE SECOND FORM's CARD OF 'wittinglaw20.QuotientBisimilar'. -/
def quotientBisimilarUptoCard : Claim7 := { stood := { row := quotientBisimilarUptoRow, standIns := [], harness := (true, "8d566f0265d904fd78765531ba56d84e46aac9efdae886bb35f471103bd136f7"), looks := false }, kinds := [], alts := [], laidByText := true, laidKinds := [.data, .data, .data], laidTests := true, laidLooks := .later }
def QuotientBisimilarUptoCardSaid : Prop := Claim7.holds Tryz.pinned (.plain (OpenSpec.upto quotientBisimilarSpec)) quotientBisimilarUptoCard

/-- THE SECOND FORM's CARD OF 'wittinglaw20.QuotientFrames'. -/
def quotientFramesUptoCard : Claim7 := { stood := { row := quotientFramesUptoRow, standIns := [], harness := (true, "8d566f0265d904fd78765531ba56d84e46aac9efdae886bb35f471103bd136f7"), looks := false }, kinds := [], alts := [], laidByText := true, laidKinds := [.data, .data, .data], laidTests := true, laidLooks := .later }
def QuotientFramesUptoCardSaid : Prop := Claim7.holds Tryz.pinned (.plain (OpenSpec.upto quotientFramesSpec)) quotientFramesUptoCard

/-- THE SECOND FORM's CARD OF 'wittinglaw20.QuotientRenamed'. -/
def quotientRenamedUptoCard : Claim7 := { stood := { row := quotientRenamedUptoRow, standIns := [], harness := (true, "8d566f0265d904fd78765531ba56d84e46aac9efdae886bb35f471103bd136f7"), looks := false }, kinds := [], alts := [], laidByText := true, laidKinds := [.data, .data, .data], laidTests := true, laidLooks := .later }
def QuotientRenamedUptoCardSaid : Prop := Claim7.holds Tryz.pinned (.plain (OpenSpec.upto quotientRenamedSpec)) quotientRenamedUptoCard

/-- THE SECOND FORM's CARD OF 'wittinglaw20.QuotientPoints'. -/
def quotientPointsUptoCard : Claim7 := { stood := { row := quotientPointsUptoRow, standIns := [], harness := (true, "8d566f0265d904fd78765531ba56d84e46aac9efdae886bb35f471103bd136f7"), looks := false }, kinds := [], alts := [], laidByText := true, laidKinds := [.data, .data, .data], laidTests := true, laidLooks := .later }
def QuotientPointsUptoCardSaid : Prop := Claim7.holds Tryz.pinned (.plain (OpenSpec.upto quotientPointsSpec)) quotientPointsUptoCard

/-- THE SECOND FORM's CARD OF 'wittinglaw20.QuotientSame'. -/
def quotientSameUptoCard : Claim7 := { stood := { row := quotientSameUptoRow, standIns := [], harness := (true, "8d566f0265d904fd78765531ba56d84e46aac9efdae886bb35f471103bd136f7"), looks := false }, kinds := [], alts := [], laidByText := true, laidKinds := [.data, .data, .data], laidTests := true, laidLooks := .later }
def QuotientSameUptoCardSaid : Prop := Claim7.holds Tryz.pinned (.plain (OpenSpec.upto quotientSameSpec)) quotientSameUptoCard

/-- THE SECOND FORM's CARD OF 'wittinglaw20.QuotientDecides'. -/
def quotientDecidesUptoCard : Claim7 := { stood := { row := quotientDecidesUptoRow, standIns := [], harness := (true, "8d566f0265d904fd78765531ba56d84e46aac9efdae886bb35f471103bd136f7"), looks := false }, kinds := [], alts := [], laidByText := true, laidKinds := [.data, .data, .data], laidTests := true, laidLooks := .later }
def QuotientDecidesUptoCardSaid : Prop := Claim7.holds Tryz.pinned (.plain (OpenSpec.upto quotientDecidesSpec)) quotientDecidesUptoCard

/-- THE SECOND FORM's CARD OF 'wittinglaw20.QuotientTruth'. -/
def quotientTruthUptoCard : Claim7 := { stood := { row := quotientTruthUptoRow, standIns := [], harness := (true, "8d566f0265d904fd78765531ba56d84e46aac9efdae886bb35f471103bd136f7"), looks := false }, kinds := [], alts := [], laidByText := true, laidKinds := [.data, .data, .data], laidTests := true, laidLooks := .later }
def QuotientTruthUptoCardSaid : Prop := Claim7.holds Tryz.pinned (.plain (OpenSpec.upto quotientTruthSpec)) quotientTruthUptoCard

/-- THE SECOND FORM's CARD OF 'wittingtop.TopCanonicalTells'. -/
def topCanonicalTellsUptoCard : Claim7 := { stood := { row := topCanonicalTellsUptoRow, standIns := [], harness := (true, "8d566f0265d904fd78765531ba56d84e46aac9efdae886bb35f471103bd136f7"), looks := false }, kinds := [], alts := [], laidByText := true, laidKinds := [.data, .data, .data], laidTests := true, laidLooks := .later }
def TopCanonicalTellsUptoCardSaid : Prop := Claim7.holds Tryz.pinned (.plain (OpenSpec.upto topCanonicalTellsSpec)) topCanonicalTellsUptoCard
end Rows
end Go.Proofs.YtjehkdhnhfghiaaGreatDoor
