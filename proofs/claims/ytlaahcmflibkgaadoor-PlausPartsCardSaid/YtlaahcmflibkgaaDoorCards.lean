/-
  DERIVED. GIVEN WITH THE SEED: THE CARDS: each row of YtlaahcmflibkgaaDoorRows.lean that lists a variable, with what it lists TIED to the program's text (the seventh form; the later family's looks); each row that meets fmt, with fmt's text TOLD by the authors' own Lean function (tested against real Go, not proved from fmt's source: count such statements apart). THE CARD IS WHAT COUNTS. Prove the row's statement (the work); the ties are given (YtlaahcmflibkgaaDoorTie.lean); close each card by the builder's one call (the guide's Derived/Test/ToyasCard.lean, 'card_holds'). Laid BY PROGRAM, IN A SANDBOX (cutbox-door.mjs). By AI agents, Wed Nov 11 2026. No macro, syntax, notation, axiom, sorry.
-/
import Derived.Test.YtlaahcmflibkgaaDoorRows
import GoSem.ClaimSeven
namespace Go.Proofs.YtlaahcmflibkgaaDoor
namespace Rows

/-- THE TIED CARD OF 'wittinglaw33.PlausChecks'. -/
def plausChecksCard : Claim7 := { stood := { row := plausChecksRow, standIns := [], harness := (true, "94bee8f41b3226e5d37178b5def64642b3a338ae831b1aec4758e198409df0af"), looks := false }, kinds := [], alts := [], laidByText := true, laidKinds := [.data], laidTests := true, laidLooks := .later }
def PlausChecksCardSaid : Prop := Claim7.holds Tryd.pinned (.plain (OpenSpec.ofChange plausChecksSpec)) plausChecksCard

/-- THE TIED CARD OF 'wittinglaw33.PlausBests'. -/
def plausBestsCard : Claim7 := { stood := { row := plausBestsRow, standIns := [], harness := (true, "94bee8f41b3226e5d37178b5def64642b3a338ae831b1aec4758e198409df0af"), looks := false }, kinds := [], alts := [], laidByText := true, laidKinds := [.data], laidTests := true, laidLooks := .later }
def PlausBestsCardSaid : Prop := Claim7.holds Tryd.pinned (.plain (OpenSpec.ofChange plausBestsSpec)) plausBestsCard

/-- THE TIED CARD OF 'wittinglaw33.PlausBack'. -/
def plausBackCard : Claim7 := { stood := { row := plausBackRow, standIns := [], harness := (true, "94bee8f41b3226e5d37178b5def64642b3a338ae831b1aec4758e198409df0af"), looks := false }, kinds := [], alts := [], laidByText := true, laidKinds := [.data], laidTests := true, laidLooks := .later }
def PlausBackCardSaid : Prop := Claim7.holds Tryd.pinned (.plain (OpenSpec.ofChange plausBackSpec)) plausBackCard

/-- THE TIED CARD OF 'wittinglaw33.PlausWithin'. -/
def plausWithinCard : Claim7 := { stood := { row := plausWithinRow, standIns := [], harness := (true, "94bee8f41b3226e5d37178b5def64642b3a338ae831b1aec4758e198409df0af"), looks := false }, kinds := [], alts := [], laidByText := true, laidKinds := [.data], laidTests := true, laidLooks := .later }
def PlausWithinCardSaid : Prop := Claim7.holds Tryd.pinned (.plain (OpenSpec.ofChange plausWithinSpec)) plausWithinCard

/-- THE TIED CARD OF 'wittinglaw33.PlausParts'. -/
def plausPartsCard : Claim7 := { stood := { row := plausPartsRow, standIns := [], harness := (true, "94bee8f41b3226e5d37178b5def64642b3a338ae831b1aec4758e198409df0af"), looks := false }, kinds := [], alts := [], laidByText := true, laidKinds := [.data], laidTests := true, laidLooks := .later }
def PlausPartsCardSaid : Prop := Claim7.holds Tryd.pinned (.plain (OpenSpec.ofChange plausPartsSpec)) plausPartsCard

/-- THE TIED CARD OF 'wittinglaw33.PlausModels'. -/
def plausModelsCard : Claim7 := { stood := { row := plausModelsRow, standIns := [], harness := (true, "94bee8f41b3226e5d37178b5def64642b3a338ae831b1aec4758e198409df0af"), looks := false }, kinds := [], alts := [], laidByText := true, laidKinds := [.data], laidTests := true, laidLooks := .later }
def PlausModelsCardSaid : Prop := Claim7.holds Tryd.pinned (.plain (OpenSpec.ofChange plausModelsSpec)) plausModelsCard

/-- THE TIED CARD OF 'wittinglaw33.PlausLogics'. -/
def plausLogicsCard : Claim7 := { stood := { row := plausLogicsRow, standIns := [], harness := (true, "94bee8f41b3226e5d37178b5def64642b3a338ae831b1aec4758e198409df0af"), looks := false }, kinds := [], alts := [], laidByText := true, laidKinds := [.data], laidTests := true, laidLooks := .later }
def PlausLogicsCardSaid : Prop := Claim7.holds Tryd.pinned (.plain (OpenSpec.ofChange plausLogicsSpec)) plausLogicsCard

/-- THE SECOND FORM's CARD OF 'wittinglaw33.PlausChecks'. -/
def plausChecksUptoCard : Claim7 := { stood := { row := plausChecksUptoRow, standIns := [], harness := (true, "94bee8f41b3226e5d37178b5def64642b3a338ae831b1aec4758e198409df0af"), looks := false }, kinds := [], alts := [], laidByText := true, laidKinds := [.data], laidTests := true, laidLooks := .later }
def PlausChecksUptoCardSaid : Prop := Claim7.holds Tryd.pinned (.plain (OpenSpec.upto plausChecksSpec)) plausChecksUptoCard

/-- THE SECOND FORM's CARD OF 'wittinglaw33.PlausBests'. -/
def plausBestsUptoCard : Claim7 := { stood := { row := plausBestsUptoRow, standIns := [], harness := (true, "94bee8f41b3226e5d37178b5def64642b3a338ae831b1aec4758e198409df0af"), looks := false }, kinds := [], alts := [], laidByText := true, laidKinds := [.data], laidTests := true, laidLooks := .later }
def PlausBestsUptoCardSaid : Prop := Claim7.holds Tryd.pinned (.plain (OpenSpec.upto plausBestsSpec)) plausBestsUptoCard

/-- THE SECOND FORM's CARD OF 'wittinglaw33.PlausBack'. -/
def plausBackUptoCard : Claim7 := { stood := { row := plausBackUptoRow, standIns := [], harness := (true, "94bee8f41b3226e5d37178b5def64642b3a338ae831b1aec4758e198409df0af"), looks := false }, kinds := [], alts := [], laidByText := true, laidKinds := [.data], laidTests := true, laidLooks := .later }
def PlausBackUptoCardSaid : Prop := Claim7.holds Tryd.pinned (.plain (OpenSpec.upto plausBackSpec)) plausBackUptoCard

/-- THE SECOND FORM's CARD OF 'wittinglaw33.PlausWithin'. -/
def plausWithinUptoCard : Claim7 := { stood := { row := plausWithinUptoRow, standIns := [], harness := (true, "94bee8f41b3226e5d37178b5def64642b3a338ae831b1aec4758e198409df0af"), looks := false }, kinds := [], alts := [], laidByText := true, laidKinds := [.data], laidTests := true, laidLooks := .later }
def PlausWithinUptoCardSaid : Prop := Claim7.holds Tryd.pinned (.plain (OpenSpec.upto plausWithinSpec)) plausWithinUptoCard

/-- THE SECOND FORM's CARD OF 'wittinglaw33.PlausParts'. -/
def plausPartsUptoCard : Claim7 := { stood := { row := plausPartsUptoRow, standIns := [], harness := (true, "94bee8f41b3226e5d37178b5def64642b3a338ae831b1aec4758e198409df0af"), looks := false }, kinds := [], alts := [], laidByText := true, laidKinds := [.data], laidTests := true, laidLooks := .later }
def PlausPartsUptoCardSaid : Prop := Claim7.holds Tryd.pinned (.plain (OpenSpec.upto plausPartsSpec)) plausPartsUptoCard

/-- THE SECOND FORM's CARD OF 'wittinglaw33.PlausModels'. -/
def plausModelsUptoCard : Claim7 := { stood := { row := plausModelsUptoRow, standIns := [], harness := (true, "94bee8f41b3226e5d37178b5def64642b3a338ae831b1aec4758e198409df0af"), looks := false }, kinds := [], alts := [], laidByText := true, laidKinds := [.data], laidTests := true, laidLooks := .later }
def PlausModelsUptoCardSaid : Prop := Claim7.holds Tryd.pinned (.plain (OpenSpec.upto plausModelsSpec)) plausModelsUptoCard

/-- THE SECOND FORM's CARD OF 'wittinglaw33.PlausLogics'. -/
def plausLogicsUptoCard : Claim7 := { stood := { row := plausLogicsUptoRow, standIns := [], harness := (true, "94bee8f41b3226e5d37178b5def64642b3a338ae831b1aec4758e198409df0af"), looks := false }, kinds := [], alts := [], laidByText := true, laidKinds := [.data], laidTests := true, laidLooks := .later }
def PlausLogicsUptoCardSaid : Prop := Claim7.holds Tryd.pinned (.plain (OpenSpec.upto plausLogicsSpec)) plausLogicsUptoCard
end Rows
end Go.Proofs.YtlaahcmflibkgaaDoor
