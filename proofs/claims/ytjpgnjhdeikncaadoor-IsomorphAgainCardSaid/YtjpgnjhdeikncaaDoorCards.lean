/-
  DERIVED. GIVEN WITH THE SEED: THE CARDS: each row of YtjpgnjhdeikncaaDoorRows.lean that lists a variable, with what it lists TIED to the program's text (the seventh form; the later family's looks); each row that meets fmt, with fmt's text TOLD by the authors' own Lean function (tested against real Go, not proved from fmt's source: count such statements apart). THE CARD IS WHAT COUNTS. Prove the row's statement (the work); the ties are given (YtjpgnjhdeikncaaDoorTie.lean); close each card by the builder's one call (the guide's Derived/Test/ToyasCard.lean, 'card_holds'). Laid BY PROGRAM, IN A SANDBOX (cutbox-door.mjs). By AI agents, Wed Nov 11 2026. No macro, syntax, notation, axiom, sorry.
-/
import Derived.Test.YtjpgnjhdeikncaaDoorRows
import GoSem.ClaimSeven
namespace Go.Proofs.YtjpgnjhdeikncaaDoor
namespace Rows

/-- THE TIED CARD OF 'wittinglaw16.IsomorphAgain'. -/
def isomorphAgainCard : Claim7 := { stood := { row := isomorphAgainRow, standIns := [], harness := (true, "1d1f4d3b1fd1bb478d7d32142ca25e0cd351fab150e81bd84dd8c9645efcba72"), looks := false }, kinds := [], alts := [], laidByText := true, laidKinds := [.data], laidTests := true, laidLooks := .later }
def IsomorphAgainCardSaid : Prop := Claim7.holds Tryd.pinned (.plain (OpenSpec.ofChange isomorphAgainSpec)) isomorphAgainCard

/-- THE TIED CARD OF 'wittinglaw16.IsomorphBreaks'. -/
def isomorphBreaksCard : Claim7 := { stood := { row := isomorphBreaksRow, standIns := [], harness := (true, "1d1f4d3b1fd1bb478d7d32142ca25e0cd351fab150e81bd84dd8c9645efcba72"), looks := false }, kinds := [], alts := [], laidByText := true, laidKinds := [.data], laidTests := true, laidLooks := .later }
def IsomorphBreaksCardSaid : Prop := Claim7.holds Tryd.pinned (.plain (OpenSpec.ofChange isomorphBreaksSpec)) isomorphBreaksCard

/-- THE SECOND FORM's CARD OF 'wittinglaw16.IsomorphAgain'. -/
def isomorphAgainUptoCard : Claim7 := { stood := { row := isomorphAgainUptoRow, standIns := [], harness := (true, "1d1f4d3b1fd1bb478d7d32142ca25e0cd351fab150e81bd84dd8c9645efcba72"), looks := false }, kinds := [], alts := [], laidByText := true, laidKinds := [.data], laidTests := true, laidLooks := .later }
def IsomorphAgainUptoCardSaid : Prop := Claim7.holds Tryd.pinned (.plain (OpenSpec.upto isomorphAgainSpec)) isomorphAgainUptoCard

/-- THE SECOND FORM's CARD OF 'wittinglaw16.IsomorphBreaks'. -/
def isomorphBreaksUptoCard : Claim7 := { stood := { row := isomorphBreaksUptoRow, standIns := [], harness := (true, "1d1f4d3b1fd1bb478d7d32142ca25e0cd351fab150e81bd84dd8c9645efcba72"), looks := false }, kinds := [], alts := [], laidByText := true, laidKinds := [.data], laidTests := true, laidLooks := .later }
def IsomorphBreaksUptoCardSaid : Prop := Claim7.holds Tryd.pinned (.plain (OpenSpec.upto isomorphBreaksSpec)) isomorphBreaksUptoCard
end Rows
end Go.Proofs.YtjpgnjhdeikncaaDoor
