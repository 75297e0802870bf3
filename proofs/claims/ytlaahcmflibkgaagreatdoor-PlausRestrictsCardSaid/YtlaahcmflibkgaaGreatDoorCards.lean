/-
  DERIVED. GIVEN WITH THE SEED: THE CARDS: each row of YtlaahcmflibkgaaGreatDoorRows.lean that lists a variable, with what it lists TIED to the program's text (the seventh form; the later family's looks); each row that meets fmt, with fmt's text TOLD by the authors' own Lean function (tested against real Go, not proved from fmt's source: count such statements apart). THE CARD IS WHAT COUNTS. Prove the row's statement (the work); the ties are given (YtlaahcmflibkgaaGreatDoorTie.lean); close each card by the builder's one call (the guide's Derived/Test/ToyasCard.lean, 'card_holds'). Laid BY PROGRAM, IN A SANDBOX (cutbox-door.mjs). By AI agents, Wed Nov 11 2026. No macro, syntax, notation, axiom, sorry.
-/
import Derived.Test.YtlaahcmflibkgaaGreatDoorRows
import GoSem.ClaimSeven
namespace Go.Proofs.YtlaahcmflibkgaaGreatDoor
namespace Rows

/-- THE TIED CARD OF 'wittinglaw33.PlausNews'. -/
def plausNewsCard : Claim7 := { stood := { row := plausNewsRow, standIns := [], harness := (true, "6de5a34d7b7c750f9ff002f8df45870f7e752a21f926b7be7369ac0219a24b25"), looks := false }, kinds := [], alts := [], laidByText := true, laidKinds := [.data], laidTests := true, laidLooks := .later }
def PlausNewsCardSaid : Prop := Claim7.holds Tryz.pinned (.plain (OpenSpec.ofChange plausNewsSpec)) plausNewsCard

/-- THE TIED CARD OF 'wittinglaw33.PlausRestricts'. -/
def plausRestrictsCard : Claim7 := { stood := { row := plausRestrictsRow, standIns := [], harness := (true, "6de5a34d7b7c750f9ff002f8df45870f7e752a21f926b7be7369ac0219a24b25"), looks := false }, kinds := [], alts := [], laidByText := true, laidKinds := [.data], laidTests := true, laidLooks := .later }
def PlausRestrictsCardSaid : Prop := Claim7.holds Tryz.pinned (.plain (OpenSpec.ofChange plausRestrictsSpec)) plausRestrictsCard

/-- THE SECOND FORM's CARD OF 'wittinglaw33.PlausNews'. -/
def plausNewsUptoCard : Claim7 := { stood := { row := plausNewsUptoRow, standIns := [], harness := (true, "6de5a34d7b7c750f9ff002f8df45870f7e752a21f926b7be7369ac0219a24b25"), looks := false }, kinds := [], alts := [], laidByText := true, laidKinds := [.data], laidTests := true, laidLooks := .later }
def PlausNewsUptoCardSaid : Prop := Claim7.holds Tryz.pinned (.plain (OpenSpec.upto plausNewsSpec)) plausNewsUptoCard

/-- THE SECOND FORM's CARD OF 'wittinglaw33.PlausRestricts'. -/
def plausRestrictsUptoCard : Claim7 := { stood := { row := plausRestrictsUptoRow, standIns := [], harness := (true, "6de5a34d7b7c750f9ff002f8df45870f7e752a21f926b7be7369ac0219a24b25"), looks := false }, kinds := [], alts := [], laidByText := true, laidKinds := [.data], laidTests := true, laidLooks := .later }
def PlausRestrictsUptoCardSaid : Prop := Claim7.holds Tryz.pinned (.plain (OpenSpec.upto plausRestrictsSpec)) plausRestrictsUptoCard
end Rows
end Go.Proofs.YtlaahcmflibkgaaGreatDoor
