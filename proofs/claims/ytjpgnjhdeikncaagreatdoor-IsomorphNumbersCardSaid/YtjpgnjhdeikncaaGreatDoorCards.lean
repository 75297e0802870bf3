/-
  DERIVED. GIVEN WITH THE SEED: THE CARDS: each row of YtjpgnjhdeikncaaGreatDoorRows.lean that lists a variable, with what it lists TIED to the program's text (the seventh form; the later family's looks); each row that meets fmt, with fmt's text TOLD by the authors' own Lean function (tested against real Go, not proved from fmt's source: count such statements apart). THE CARD IS WHAT COUNTS. Prove the row's statement (the work); the ties are given (YtjpgnjhdeikncaaGreatDoorTie.lean); close each card by the builder's one call (the guide's Derived/Test/ToyasCard.lean, 'card_holds'). Laid BY PROGRAM, IN A SANDBOX (cutbox-door.mjs). By AI agents, Wed Nov 11 2026. No macro, syntax, notation, axiom, sorry.
-/
import Derived.Test.YtjpgnjhdeikncaaGreatDoorRows
import GoSem.ClaimSeven
namespace Go.Proofs.YtjpgnjhdeikncaaGreatDoor
namespace Rows

/-- THE TIED CARD OF 'wittinglaw16.IsomorphColors'. -/
def isomorphColorsCard : Claim7 := { stood := { row := isomorphColorsRow, standIns := [], harness := (true, "c96b12866c1abf5fdfd17610126ecda506524b3457cc7270fbd11550e856ea1c"), looks := false }, kinds := [], alts := [], laidByText := true, laidKinds := [.data], laidTests := true, laidLooks := .later }
def IsomorphColorsCardSaid : Prop := Claim7.holds Tryz.pinned (.plain (OpenSpec.ofChange isomorphColorsSpec)) isomorphColorsCard

/-- THE TIED CARD OF 'wittinglaw16.IsomorphChecks'. -/
def isomorphChecksCard : Claim7 := { stood := { row := isomorphChecksRow, standIns := [], harness := (true, "c96b12866c1abf5fdfd17610126ecda506524b3457cc7270fbd11550e856ea1c"), looks := false }, kinds := [], alts := [], laidByText := true, laidKinds := [.data], laidTests := true, laidLooks := .later }
def IsomorphChecksCardSaid : Prop := Claim7.holds Tryz.pinned (.plain (OpenSpec.ofChange isomorphChecksSpec)) isomorphChecksCard

/-- THE TIED CARD OF 'wittinglaw16.IsomorphCanonical'. -/
def isomorphCanonicalCard : Claim7 := { stood := { row := isomorphCanonicalRow, standIns := [], harness := (true, "c96b12866c1abf5fdfd17610126ecda506524b3457cc7270fbd11550e856ea1c"), looks := false }, kinds := [], alts := [], laidByText := true, laidKinds := [.data], laidTests := true, laidLooks := .later }
def IsomorphCanonicalCardSaid : Prop := Claim7.holds Tryz.pinned (.plain (OpenSpec.ofChange isomorphCanonicalSpec)) isomorphCanonicalCard

/-- THE TIED CARD OF 'wittinglaw16.IsomorphKeeps'. -/
def isomorphKeepsCard : Claim7 := { stood := { row := isomorphKeepsRow, standIns := [], harness := (true, "c96b12866c1abf5fdfd17610126ecda506524b3457cc7270fbd11550e856ea1c"), looks := false }, kinds := [], alts := [], laidByText := true, laidKinds := [.data], laidTests := true, laidLooks := .later }
def IsomorphKeepsCardSaid : Prop := Claim7.holds Tryz.pinned (.plain (OpenSpec.ofChange isomorphKeepsSpec)) isomorphKeepsCard

/-- THE TIED CARD OF 'wittinglaw16.IsomorphNumbers'. -/
def isomorphNumbersCard : Claim7 := { stood := { row := isomorphNumbersRow, standIns := [], harness := (true, "c96b12866c1abf5fdfd17610126ecda506524b3457cc7270fbd11550e856ea1c"), looks := false }, kinds := [], alts := [], laidByText := true, laidKinds := [.data], laidTests := true, laidLooks := .later }
def IsomorphNumbersCardSaid : Prop := Claim7.holds Tryz.pinned (.plain (OpenSpec.ofChange isomorphNumbersSpec)) isomorphNumbersCard

/-- THE TIED CARD OF 'wittingtop.TopQuotientUnique'. -/
def topQuotientUniqueCard : Claim7 := { stood := { row := topQuotientUniqueRow, standIns := [], harness := (true, "c96b12866c1abf5fdfd17610126ecda506524b3457cc7270fbd11550e856ea1c"), looks := false }, kinds := [], alts := [], laidByText := true, laidKinds := [.data, .data, .data], laidTests := true, laidLooks := .later }
def TopQuotientUniqueCardSaid : Prop := Claim7.holds Tryz.pinned (.plain (OpenSpec.ofChange topQuotientUniqueSpec)) topQuotientUniqueCard

/-- THE TIED CARD OF 'wittinglaw20.QuotientBy'. -/
def quotientByCard : Claim7 := { stood := { row := quotientByRow, standIns := [], harness := (true, "c96b12866c1abf5fdfd17610126ecda506524b3457cc7270fbd11550e856ea1c"), looks := false }, kinds := [], alts := [], laidByText := true, laidKinds := [.data, .data, .data], laidTests := true, laidLooks := .later }
def QuotientByCardSaid : Prop := Claim7.holds Tryz.pinned (.plain (OpenSpec.ofChange quotientBySpec)) quotientByCard

/-- THE TIED CARD OF 'wittinglaw20.QuotientBisimilar'. -/
def quotientBisimilarCard : Claim7 := { stood := { row := quotientBisimilarRow, standIns := [], harness := (true, "c96b12866c1abf5fdfd17610126ecda506524b3457cc7270fbd11550e856ea1c"), looks := false }, kinds := [], alts := [], laidByText := true, laidKinds := [.data, .data, .data], laidTests := true, laidLooks := .later }
def QuotientBisimilarCardSaid : Prop := Claim7.holds Tryz.pinned (.plain (OpenSpec.ofChange quotientBisimilarSpec)) quotientBisimilarCard

/-- THE TIED CARD OF 'wittinglaw20.QuotientFrames'. -/
def quotientFramesCard : Claim7 := { stood := { row := quotientFramesRow, standIns := [], harness := (true, "c96b12866c1abf5fdfd17610126ecda506524b3457cc7270fbd11550e856ea1c"), looks := false }, kinds := [], alts := [], laidByText := true, laidKinds := [.data, .data, .data], laidTests := true, laidLooks := .later }
def QuotientFramesCardSaid : Prop := Claim7.holds Tryz.pinned (.plain (OpenSpec.ofChange quotientFramesSpec)) quotientFramesCard

/-- THE TIED CARD OF 'wittinglaw20.QuotientRenamed'. -/
def quotientRenamedCard : Claim7 := { stood := { row := quotientRenamedRow, standIns := [], harness := (true, "c96b12866c1abf5fdfd17610126ecda506524b3457cc7270fbd11550e856ea1c"), looks := false }, kinds := [], alts := [], laidByText := true, laidKinds := [.data, .data, .data], laidTests := true, laidLooks := .later }
def QuotientRenamedCardSaid : Prop := Claim7.holds Tryz.pinned (.plain (OpenSpec.ofChange quotientRenamedSpec)) quotientRenamedCard

/-- THE SECOND FORM's CARD OF 'wittinglaw16.IsomorphColors'. -/
def isomorphColorsUptoCard : Claim7 := { stood := { row := isomorphColorsUptoRow, standIns := [], harness := (true, "c96b12866c1abf5fdfd17610126ecda506524b3457cc7270fbd11550e856ea1c"), looks := false }, kinds := [], alts := [], laidByText := true, laidKinds := [.data], laidTests := true, laidLooks := .later }
def IsomorphColorsUptoCardSaid : Prop := Claim7.holds Tryz.pinned (.plain (OpenSpec.upto isomorphColorsSpec)) isomorphColorsUptoCard

/-- THE SECOND FORM's CARD OF 'wittinglaw16.IsomorphChecks'. -/
def isomorphChecksUptoCard : Claim7 := { stood := { row := isomorphChecksUptoRow, standIns := [], harness := (true, "c96b12866c1abf5fdfd17610126ecda506524b3457cc7270fbd11550e856ea1c"), looks := false }, kinds := [], alts := [], laidByText := true, laidKinds := [.data], laidTests := true, laidLooks := .later }
def IsomorphChecksUptoCardSaid : Prop := Claim7.holds Tryz.pinned (.plain (OpenSpec.upto isomorphChecksSpec)) isomorphChecksUptoCard

/-- THE SECOND FORM's CARD OF 'wittinglaw16.IsomorphCanonical'. -/
def isomorphCanonicalUptoCard : Claim7 := { stood := { row := isomorphCanonicalUptoRow, standIns := [], harness := (true, "c96b12866c1abf5fdfd17610126ecda506524b3457cc7270fbd11550e856ea1c"), looks := false }, kinds := [], alts := [], laidByText := true, laidKinds := [.data], laidTests := true, laidLooks := .later }
def IsomorphCanonicalUptoCardSaid : Prop := Claim7.holds Tryz.pinned (.plain (OpenSpec.upto isomorphCanonicalSpec)) isomorphCanonicalUptoCard

/-- THE SECOND FORM's CARD OF 'wittinglaw16.IsomorphKeeps'. -/
def isomorphKeepsUptoCard : Claim7 := { stood := { row := isomorphKeepsUptoRow, standIns := [], harness := (true, "c96b12866c1abf5fdfd17610126ecda506524b3457cc7270fbd11550e856ea1c"), looks := false }, kinds := [], alts := [], laidByText := true, laidKinds := [.data], laidTests := true, laidLooks := .later }
def IsomorphKeepsUptoCardSaid : Prop := Claim7.holds Tryz.pinned (.plain (OpenSpec.upto isomorphKeepsSpec)) isomorphKeepsUptoCard

/-- THE SECOND FORM's CARD OF 'wittinglaw16.IsomorphNumbers'. -/
def isomorphNumbersUptoCard : Claim7 := { stood := { row := isomorphNumbersUptoRow, standIns := [], harness := (true, "c96b12866c1abf5fdfd17610126ecda506524b3457cc7270fbd11550e856ea1c"), looks := false }, kinds := [], alts := [], laidByText := true, laidKinds := [.data], laidTests := true, laidLooks := .later }
def IsomorphNumbersUptoCardSaid : Prop := Claim7.holds Tryz.pinned (.plain (OpenSpec.upto isomorphNumbersSpec)) isomorphNumbersUptoCard

/-- THE SECOND FORM's CARD OF 'wittingtop.TopQuotientUnique'. -/
def topQuotientUniqueUptoCard : Claim7 := { stood := { row := topQuotientUniqueUptoRow, standIns := [], harness := (true, "c96b12866c1abf5fdfd17610126ecda506524b3457cc7270fbd11550e856ea1c"), looks := false }, kinds := [], alts := [], laidByText := true, laidKinds := [.data, .data, .data], laidTests := true, laidLooks := .later }
def TopQuotientUniqueUptoCardSaid : Prop := Claim7.holds Tryz.pinned (.plain (OpenSpec.upto topQuotientUniqueSpec)) topQuotientUniqueUptoCard

/-- THE SECOND FORM's CARD OF 'wittinglaw20.QuotientBy'. -/
def quotientByUptoCard : Claim7 := { stood := { row := quotientByUptoRow, standIns := [], harness := (true, "c96b12866c1abf5fdfd17610126ecda506524b3457cc7270fbd11550e856ea1c"), looks := false }, kinds := [], alts := [], laidByText := true, laidKinds := [.data, .data, .data], laidTests := true, laidLooks := .later }
def QuotientByUptoCardSaid : Prop := Claim7.holds Tryz.pinned (.plain (OpenSpec.upto quotientBySpec)) quotientByUptoCard

/-- THE SECOND FORM's CARD OF 'wittinglaw20.QuotientBisimilar'. -/
def quotientBisimilarUptoCard : Claim7 := { stood := { row := quotientBisimilarUptoRow, standIns := [], harness := (true, "c96b12866c1abf5fdfd17610126ecda506524b3457cc7270fbd11550e856ea1c"), looks := false }, kinds := [], alts := [], laidByText := true, laidKinds := [.data, .data, .data], laidTests := true, laidLooks := .later }
def QuotientBisimilarUptoCardSaid : Prop := Claim7.holds Tryz.pinned (.plain (OpenSpec.upto quotientBisimilarSpec)) quotientBisimilarUptoCard

/-- THE SECOND FORM's CARD OF 'wittinglaw20.QuotientFrames'. -/
def quotientFramesUptoCard : Claim7 := { stood := { row := quotientFramesUptoRow, standIns := [], harness := (true, "c96b12866c1abf5fdfd17610126ecda506524b3457cc7270fbd11550e856ea1c"), looks := false }, kinds := [], alts := [], laidByText := true, laidKinds := [.data, .data, .data], laidTests := true, laidLooks := .later }
def QuotientFramesUptoCardSaid : Prop := Claim7.holds Tryz.pinned (.plain (OpenSpec.upto quotientFramesSpec)) quotientFramesUptoCard

/-- THE SECOND FORM's CARD OF 'wittinglaw20.QuotientRenamed'. -/
def quotientRenamedUptoCard : Claim7 := { stood := { row := quotientRenamedUptoRow, standIns := [], harness := (true, "c96b12866c1abf5fdfd17610126ecda506524b3457cc7270fbd11550e856ea1c"), looks := false }, kinds := [], alts := [], laidByText := true, laidKinds := [.data, .data, .data], laidTests := true, laidLooks := .later }
def QuotientRenamedUptoCardSaid : Prop := Claim7.holds Tryz.pinned (.plain (OpenSpec.upto quotientRenamedSpec)) quotientRenamedUptoCard
end Rows
end Go.Proofs.YtjpgnjhdeikncaaGreatDoor
