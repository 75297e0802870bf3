/-
  DERIVED. GIVEN WITH THE SEED: THE CARDS: each row of YtmnbcipineblbaaGreatDoorRows.lean that lists a variable, with what it lists TIED to the program's text (the seventh form; the later family's looks); each row that meets fmt, with fmt's text TOLD by the authors' own Lean function (tested against real Go, not proved from fmt's source: count such statements apart). THE CARD IS WHAT COUNTS. Prove the row's statement (the work); the ties are given (YtmnbcipineblbaaGreatDoorTie.lean); close each card by the builder's one call (the guide's Derived/Test/ToyasCard.lean, 'card_holds'). Laid BY PROGRAM, IN A SANDBOX (cutbox-door.mjs). By AI agents, Wed Nov 11 2026. No macro, syntax, notation, axiom, sorry.
-/
import Derived.Test.YtmnbcipineblbaaGreatDoorRows
import GoSem.ClaimSeven
namespace Go.Proofs.YtmnbcipineblbaaGreatDoor
namespace Rows

/-- THE TIED CARD OF 'wittinglaw35.PlausbisimRounds'. -/
def plausbisimRoundsCard : Claim7 := { stood := { row := plausbisimRoundsRow, standIns := [], harness := (true, "18dfd4ab517486b5b4083ac9653826283ad51281ee160e75dab1c2a0d205e19f"), looks := false }, kinds := [], alts := [], laidByText := true, laidKinds := [.data], laidTests := true, laidLooks := .later }
def PlausbisimRoundsCardSaid : Prop := Claim7.holds Tryz.pinned (.plain (OpenSpec.ofChange plausbisimRoundsSpec)) plausbisimRoundsCard

/-- THE TIED CARD OF 'wittinglaw35.PlausbisimMinimize'. -/
def plausbisimMinimizeCard : Claim7 := { stood := { row := plausbisimMinimizeRow, standIns := [], harness := (true, "18dfd4ab517486b5b4083ac9653826283ad51281ee160e75dab1c2a0d205e19f"), looks := false }, kinds := [], alts := [], laidByText := true, laidKinds := [.data], laidTests := true, laidLooks := .later }
def PlausbisimMinimizeCardSaid : Prop := Claim7.holds Tryz.pinned (.plain (OpenSpec.ofChange plausbisimMinimizeSpec)) plausbisimMinimizeCard

/-- THE TIED CARD OF 'wittinglaw35.PlausbisimFormulas'. -/
def plausbisimFormulasCard : Claim7 := { stood := { row := plausbisimFormulasRow, standIns := [], harness := (true, "18dfd4ab517486b5b4083ac9653826283ad51281ee160e75dab1c2a0d205e19f"), looks := false }, kinds := [], alts := [], laidByText := true, laidKinds := [.data], laidTests := true, laidLooks := .later }
def PlausbisimFormulasCardSaid : Prop := Claim7.holds Tryz.pinned (.plain (OpenSpec.ofChange plausbisimFormulasSpec)) plausbisimFormulasCard

/-- THE TIED CARD OF 'wittinglaw35.PlausbisimSatisfies'. -/
def plausbisimSatisfiesCard : Claim7 := { stood := { row := plausbisimSatisfiesRow, standIns := [], harness := (true, "18dfd4ab517486b5b4083ac9653826283ad51281ee160e75dab1c2a0d205e19f"), looks := false }, kinds := [], alts := [], laidByText := true, laidKinds := [.data], laidTests := true, laidLooks := .later }
def PlausbisimSatisfiesCardSaid : Prop := Claim7.holds Tryz.pinned (.plain (OpenSpec.ofChange plausbisimSatisfiesSpec)) plausbisimSatisfiesCard

/-- THE TIED CARD OF 'wittinglaw35.PlausbisimQuotient'. -/
def plausbisimQuotientCard : Claim7 := { stood := { row := plausbisimQuotientRow, standIns := [], harness := (true, "18dfd4ab517486b5b4083ac9653826283ad51281ee160e75dab1c2a0d205e19f"), looks := false }, kinds := [], alts := [], laidByText := true, laidKinds := [.data], laidTests := true, laidLooks := .later }
def PlausbisimQuotientCardSaid : Prop := Claim7.holds Tryz.pinned (.plain (OpenSpec.ofChange plausbisimQuotientSpec)) plausbisimQuotientCard

/-- THE TIED CARD OF 'wittinglaw35.PlausbisimMinimal'. -/
def plausbisimMinimalCard : Claim7 := { stood := { row := plausbisimMinimalRow, standIns := [], harness := (true, "18dfd4ab517486b5b4083ac9653826283ad51281ee160e75dab1c2a0d205e19f"), looks := false }, kinds := [], alts := [], laidByText := true, laidKinds := [.data], laidTests := true, laidLooks := .later }
def PlausbisimMinimalCardSaid : Prop := Claim7.holds Tryz.pinned (.plain (OpenSpec.ofChange plausbisimMinimalSpec)) plausbisimMinimalCard

/-- THE TIED CARD OF 'wittinglaw35.PlausbisimRanks'. -/
def plausbisimRanksCard : Claim7 := { stood := { row := plausbisimRanksRow, standIns := [], harness := (true, "18dfd4ab517486b5b4083ac9653826283ad51281ee160e75dab1c2a0d205e19f"), looks := false }, kinds := [], alts := [], laidByText := true, laidKinds := [.data], laidTests := true, laidLooks := .later }
def PlausbisimRanksCardSaid : Prop := Claim7.holds Tryz.pinned (.plain (OpenSpec.ofChange plausbisimRanksSpec)) plausbisimRanksCard

/-- THE SECOND FORM's CARD OF 'wittinglaw35.PlausbisimRounds'. -/
def plausbisimRoundsUptoCard : Claim7 := { stood := { row := plausbisimRoundsUptoRow, standIns := [], harness := (true, "18dfd4ab517486b5b4083ac9653826283ad51281ee160e75dab1c2a0d205e19f"), looks := false }, kinds := [], alts := [], laidByText := true, laidKinds := [.data], laidTests := true, laidLooks := .later }
def PlausbisimRoundsUptoCardSaid : Prop := Claim7.holds Tryz.pinned (.plain (OpenSpec.upto plausbisimRoundsSpec)) plausbisimRoundsUptoCard

/-- THE SECOND FORM's CARD OF 'wittinglaw35.PlausbisimMinimize'. -/
def plausbisimMinimizeUptoCard : Claim7 := { stood := { row := plausbisimMinimizeUptoRow, standIns := [], harness := (true, "18dfd4ab517486b5b4083ac9653826283ad51281ee160e75dab1c2a0d205e19f"), looks := false }, kinds := [], alts := [], laidByText := true, laidKinds := [.data], laidTests := true, laidLooks := .later }
def PlausbisimMinimizeUptoCardSaid : Prop := Claim7.holds Tryz.pinned (.plain (OpenSpec.upto plausbisimMinimizeSpec)) plausbisimMinimizeUptoCard

/-- THE SECOND FORM's CARD OF 'wittinglaw35.PlausbisimFormulas'. -/
def plausbisimFormulasUptoCard : Claim7 := { stood := { row := plausbisimFormulasUptoRow, standIns := [], harness := (true, "18dfd4ab517486b5b4083ac9653826283ad51281ee160e75dab1c2a0d205e19f"), looks := false }, kinds := [], alts := [], laidByText := true, laidKinds := [.data], laidTests := true, laidLooks := .later }
def PlausbisimFormulasUptoCardSaid : Prop := Claim7.holds Tryz.pinned (.plain (OpenSpec.upto plausbisimFormulasSpec)) plausbisimFormulasUptoCard

/-- THE SECOND FORM's CARD OF 'wittinglaw35.PlausbisimSatisfies'. -/
def plausbisimSatisfiesUptoCard : Claim7 := { stood := { row := plausbisimSatisfiesUptoRow, standIns := [], harness := (true, "18dfd4ab517486b5b4083ac9653826283ad51281ee160e75dab1c2a0d205e19f"), looks := false }, kinds := [], alts := [], laidByText := true, laidKinds := [.data], laidTests := true, laidLooks := .later }
def PlausbisimSatisfiesUptoCardSaid : Prop := Claim7.holds Tryz.pinned (.plain (OpenSpec.upto plausbisimSatisfiesSpec)) plausbisimSatisfiesUptoCard

/-- THE SECOND FORM's CARD OF 'wittinglaw35.PlausbisimQuotient'. -/
def plausbisimQuotientUptoCard : Claim7 := { stood := { row := plausbisimQuotientUptoRow, standIns := [], harness := (true, "18dfd4ab517486b5b4083ac9653826283ad51281ee160e75dab1c2a0d205e19f"), looks := false }, kinds := [], alts := [], laidByText := true, laidKinds := [.data], laidTests := true, laidLooks := .later }
def PlausbisimQuotientUptoCardSaid : Prop := Claim7.holds Tryz.pinned (.plain (OpenSpec.upto plausbisimQuotientSpec)) plausbisimQuotientUptoCard

/-- THE SECOND FORM's CARD OF 'wittinglaw35.PlausbisimMinimal'. -/
def plausbisimMinimalUptoCard : Claim7 := { stood := { row := plausbisimMinimalUptoRow, standIns := [], harness := (true, "18dfd4ab517486b5b4083ac9653826283ad51281ee160e75dab1c2a0d205e19f"), looks := false }, kinds := [], alts := [], laidByText := true, laidKinds := [.data], laidTests := true, laidLooks := .later }
def PlausbisimMinimalUptoCardSaid : Prop := Claim7.holds Tryz.pinned (.plain (OpenSpec.upto plausbisimMinimalSpec)) plausbisimMinimalUptoCard

/-- THE SECOND FORM's CARD OF 'wittinglaw35.PlausbisimRanks'. -/
def plausbisimRanksUptoCard : Claim7 := { stood := { row := plausbisimRanksUptoRow, standIns := [], harness := (true, "18dfd4ab517486b5b4083ac9653826283ad51281ee160e75dab1c2a0d205e19f"), looks := false }, kinds := [], alts := [], laidByText := true, laidKinds := [.data], laidTests := true, laidLooks := .later }
def PlausbisimRanksUptoCardSaid : Prop := Claim7.holds Tryz.pinned (.plain (OpenSpec.upto plausbisimRanksSpec)) plausbisimRanksUptoCard
end Rows
end Go.Proofs.YtmnbcipineblbaaGreatDoor
