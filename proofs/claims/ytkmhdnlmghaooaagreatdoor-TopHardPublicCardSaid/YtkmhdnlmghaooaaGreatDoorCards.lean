/-
  DERIVED. GIVEN WITH THE SEED: THE CARDS: each row of YtkmhdnlmghaooaaGreatDoorRows.lean that lists a variable, with what it lists TIED to the program's text (the seventh form; the later family's looks); each row that meets fmt, with fmt's text TOLD by the authors' own Lean function (tested against real Go, not proved from fmt's source: count such statements apart). THE CARD IS WHAT COUNTS. Prove the row's statement (the work); the ties are given (YtkmhdnlmghaooaaGreatDoorTie.lean); close each card by the builder's one call (the guide's Derived/Test/ToyasCard.lean, 'card_holds'). Laid BY PROGRAM, IN A SANDBOX (cutbox-door.mjs). By AI agents, Wed Nov 11 2026. No macro, syntax, notation, axiom, sorry.
-/
import Derived.Test.YtkmhdnlmghaooaaGreatDoorRows
import GoSem.ClaimSeven
namespace Go.Proofs.YtkmhdnlmghaooaaGreatDoor
namespace Rows

/-- THE TIED CARD OF 'wittinglaw20.QuotientTruth'. -/
def quotientTruthCard : Claim7 := { stood := { row := quotientTruthRow, standIns := [], harness := (true, "86b97d0b0e390b30dd7ea571d7e291ffbe1eddf6a7df1e56dfb71c129d4366ea"), looks := false }, kinds := [], alts := [], laidByText := true, laidKinds := [.data, .data, .data], laidTests := true, laidLooks := .later }
def QuotientTruthCardSaid : Prop := Claim7.holds Tryz.pinned (.plain (OpenSpec.ofChange quotientTruthSpec)) quotientTruthCard

/-- THE TIED CARD OF 'wittingtop.TopHardPublic'. -/
def topHardPublicCard : Claim7 := { stood := { row := topHardPublicRow, standIns := [], harness := (true, "86b97d0b0e390b30dd7ea571d7e291ffbe1eddf6a7df1e56dfb71c129d4366ea"), looks := false }, kinds := [], alts := [], laidByText := true, laidKinds := [.data], laidTests := true, laidLooks := .later }
def TopHardPublicCardSaid : Prop := Claim7.holds Tryz.pinned (.plain (OpenSpec.ofChange topHardPublicSpec)) topHardPublicCard

/-- THE TIED CARD OF 'wittingtop.TopCanonicalTells'. -/
def topCanonicalTellsCard : Claim7 := { stood := { row := topCanonicalTellsRow, standIns := [], harness := (true, "86b97d0b0e390b30dd7ea571d7e291ffbe1eddf6a7df1e56dfb71c129d4366ea"), looks := false }, kinds := [], alts := [], laidByText := true, laidKinds := [.data, .data, .data], laidTests := true, laidLooks := .later }
def TopCanonicalTellsCardSaid : Prop := Claim7.holds Tryz.pinned (.plain (OpenSpec.ofChange topCanonicalTellsSpec)) topCanonicalTellsCard

/-- THE SECOND FORM's CARD OF 'wittinglaw20.QuotientTruth'. -/
def quotientTruthUptoCard : Claim7 := { stood := { row := quotientTruthUptoRow, standIns := [], harness := (true, "86b97d0b0e390b30dd7ea571d7e291ffbe1eddf6a7df1e56dfb71c129d4366ea"), looks := false }, kinds := [], alts := [], laidByText := true, laidKinds := [.data, .data, .data], laidTests := true, laidLooks := .later }
def QuotientTruthUptoCardSaid : Prop := Claim7.holds Tryz.pinned (.plain (OpenSpec.upto quotientTruthSpec)) quotientTruthUptoCard

/-- THE SECOND FORM's CARD OF 'wittingtop.TopHardPublic'. -/
def topHardPublicUptoCard : Claim7 := { stood := { row := topHardPublicUptoRow, standIns := [], harness := (true, "86b97d0b0e390b30dd7ea571d7e291ffbe1eddf6a7df1e56dfb71c129d4366ea"), looks := false }, kinds := [], alts := [], laidByText := true, laidKinds := [.data], laidTests := true, laidLooks := .later }
def TopHardPublicUptoCardSaid : Prop := Claim7.holds Tryz.pinned (.plain (OpenSpec.upto topHardPublicSpec)) topHardPublicUptoCard

/-- THE SECOND FORM's CARD OF 'wittingtop.TopCanonicalTells'. -/
def topCanonicalTellsUptoCard : Claim7 := { stood := { row := topCanonicalTellsUptoRow, standIns := [], harness := (true, "86b97d0b0e390b30dd7ea571d7e291ffbe1eddf6a7df1e56dfb71c129d4366ea"), looks := false }, kinds := [], alts := [], laidByText := true, laidKinds := [.data, .data, .data], laidTests := true, laidLooks := .later }
def TopCanonicalTellsUptoCardSaid : Prop := Claim7.holds Tryz.pinned (.plain (OpenSpec.upto topCanonicalTellsSpec)) topCanonicalTellsUptoCard
end Rows
end Go.Proofs.YtkmhdnlmghaooaaGreatDoor
