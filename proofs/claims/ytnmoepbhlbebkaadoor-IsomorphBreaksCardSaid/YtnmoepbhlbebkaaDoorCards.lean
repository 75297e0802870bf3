/-
  DERIVED. GIVEN WITH THE SEED: THE CARDS: each row of YtnmoepbhlbebkaaDoorRows.lean that lists a variable, with what it lists TIED to the program's text (the seventh form; the later family's looks); each row that meets fmt, with fmt's text TOLD by the authors' own Lean function (tested against real Go, not proved from fmt's source: count such statements apart). THE CARD IS WHAT COUNTS. Prove the row's statement (the work); the ties are given (YtnmoepbhlbebkaaDoorTie.lean); close each card by the builder's one call (the guide's Derived/Test/ToyasCard.lean, 'card_holds'). Laid BY PROGRAM, IN A SANDBOX (cutbox-door.mjs). By AI agents, Wed Nov 11 2026. No macro, syntax, notation, axiom, sorry.
-/
import Derived.Test.YtnmoepbhlbebkaaDoorRows
import GoSem.ClaimSeven
namespace Go.Proofs.YtnmoepbhlbebkaaDoor
namespace Rows

/-- THE TIED CARD OF 'wittingtop.TopDialogue'. -/
def topDialogueCard : Claim7 := { stood := { row := topDialogueRow, standIns := [], harness := (true, "7a347cb9a06394a95226200a4545b30b3c5f3750811211b8b198eb3700db2b15"), looks := false }, kinds := [], alts := [], laidByText := true, laidKinds := [.data], laidTests := true, laidLooks := .later }
def TopDialogueCardSaid : Prop := Claim7.holds Tryd.pinned (.plain (OpenSpec.ofChange topDialogueSpec)) topDialogueCard

/-- THE TIED CARD OF 'wittinglaw16.IsomorphBreaks'. -/
def isomorphBreaksCard : Claim7 := { stood := { row := isomorphBreaksRow, standIns := [], harness := (true, "7a347cb9a06394a95226200a4545b30b3c5f3750811211b8b198eb3700db2b15"), looks := false }, kinds := [], alts := [], laidByText := true, laidKinds := [.data], laidTests := true, laidLooks := .later }
def IsomorphBreaksCardSaid : Prop := Claim7.holds Tryd.pinned (.plain (OpenSpec.ofChange isomorphBreaksSpec)) isomorphBreaksCard

/-- THE SECOND FORM's CARD OF 'wittingtop.TopDialogue'. -/
def topDialogueUptoCard : Claim7 := { stood := { row := topDialogueUptoRow, standIns := [], harness := (true, "7a347cb9a06394a95226200a4545b30b3c5f3750811211b8b198eb3700db2b15"), looks := false }, kinds := [], alts := [], laidByText := true, laidKinds := [.data], laidTests := true, laidLooks := .later }
def TopDialogueUptoCardSaid : Prop := Claim7.holds Tryd.pinned (.plain (OpenSpec.upto topDialogueSpec)) topDialogueUptoCard

/-- THE SECOND FORM's CARD OF 'wittinglaw16.IsomorphBreaks'. -/
def isomorphBreaksUptoCard : Claim7 := { stood := { row := isomorphBreaksUptoRow, standIns := [], harness := (true, "7a347cb9a06394a95226200a4545b30b3c5f3750811211b8b198eb3700db2b15"), looks := false }, kinds := [], alts := [], laidByText := true, laidKinds := [.data], laidTests := true, laidLooks := .later }
def IsomorphBreaksUptoCardSaid : Prop := Claim7.holds Tryd.pinned (.plain (OpenSpec.upto isomorphBreaksSpec)) isomorphBreaksUptoCard
end Rows
end Go.Proofs.YtnmoepbhlbebkaaDoor
