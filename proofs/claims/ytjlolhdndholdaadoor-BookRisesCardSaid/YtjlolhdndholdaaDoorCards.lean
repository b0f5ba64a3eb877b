/-
  DERIVED. GIVEN WITH THE SEED: THE CARDS: each row of YtjlolhdndholdaaDoorRows.lean that lists a variable, with what it lists TIED to the program's text (the seventh form; the later family's looks); each row that meets fmt, with fmt's text TOLD by the authors' own Lean function (tested against real Go, not proved from fmt's source: count such statements apart). THE CARD IS WHAT COUNTS. Prove the row's statement (the work); the ties are given (YtjlolhdndholdaaDoorTie.lean); close each card by the builder's one call (the guide's Derived/Test/ToyasCard.lean, 'card_holds'). Laid BY PROGRAM, IN A SANDBOX (cutbox-door.mjs). By AI agents, Wed Nov 11 2026. No macro, syntax, notation, axiom, sorry.
-/
import Derived.Test.YtjlolhdndholdaaDoorRows
import GoSem.ClaimSeven
namespace Go.Proofs.YtjlolhdndholdaaDoor
namespace Rows

/-- THE TIED CARD OF 'tidewaterlaw12.BookHalf'. -/
def bookHalfCard : Claim7 := { stood := { row := bookHalfRow, standIns := [], harness := (true, "753b32a2e4ad7abcc47c4630f04f47ffc4c47e1be8e922755d3546b5f21d063a"), looks := true }, kinds := [], alts := [], laidByText := true, laidKinds := [.sentinel, .sentinel, .sentinel, .sentinel, .sentinel, .sentinel, .sentinel, .sentinel, .sentinel, .sentinel, .sentinel, .sentinel, .sentinel, .sentinel, .sentinel, .sentinel, .sentinel, .sentinel, .sentinel], laidTests := true, laidLooks := .later }
def BookHalfCardSaid : Prop := Claim7.holds Tryd.pinned (.plain (OpenSpec.ofChange bookHalfSpec)) bookHalfCard

/-- THE TIED CARD OF 'tidewaterlaw12.BookRises'. -/
def bookRisesCard : Claim7 := { stood := { row := bookRisesRow, standIns := [], harness := (true, "753b32a2e4ad7abcc47c4630f04f47ffc4c47e1be8e922755d3546b5f21d063a"), looks := true }, kinds := [], alts := [], laidByText := true, laidKinds := [.sentinel, .sentinel, .sentinel, .sentinel, .sentinel, .sentinel, .sentinel, .sentinel, .sentinel, .sentinel, .sentinel, .sentinel, .sentinel, .sentinel, .sentinel, .sentinel, .sentinel, .sentinel, .sentinel], laidTests := true, laidLooks := .later }
def BookRisesCardSaid : Prop := Claim7.holds Tryd.pinned (.plain (OpenSpec.ofChange bookRisesSpec)) bookRisesCard

/-- THE SECOND FORM's CARD OF 'tidewaterlaw12.BookHalf'. -/
def bookHalfUptoCard : Claim7 := { stood := { row := bookHalfUptoRow, standIns := [], harness := (true, "753b32a2e4ad7abcc47c4630f04f47ffc4c47e1be8e922755d3546b5f21d063a"), looks := true }, kinds := [], alts := [], laidByText := true, laidKinds := [.sentinel, .sentinel, .sentinel, .sentinel, .sentinel, .sentinel, .sentinel, .sentinel, .sentinel, .sentinel, .sentinel, .sentinel, .sentinel, .sentinel, .sentinel, .sentinel, .sentinel, .sentinel, .sentinel], laidTests := true, laidLooks := .later }
def BookHalfUptoCardSaid : Prop := Claim7.holds Tryd.pinned (.plain (OpenSpec.upto bookHalfSpec)) bookHalfUptoCard

/-- THE SECOND FORM's CARD OF 'tidewaterlaw12.BookRises'. -/
def bookRisesUptoCard : Claim7 := { stood := { row := bookRisesUptoRow, standIns := [], harness := (true, "753b32a2e4ad7abcc47c4630f04f47ffc4c47e1be8e922755d3546b5f21d063a"), looks := true }, kinds := [], alts := [], laidByText := true, laidKinds := [.sentinel, .sentinel, .sentinel, .sentinel, .sentinel, .sentinel, .sentinel, .sentinel, .sentinel, .sentinel, .sentinel, .sentinel, .sentinel, .sentinel, .sentinel, .sentinel, .sentinel, .sentinel, .sentinel], laidTests := true, laidLooks := .later }
def BookRisesUptoCardSaid : Prop := Claim7.holds Tryd.pinned (.plain (OpenSpec.upto bookRisesSpec)) bookRisesUptoCard
end Rows
end Go.Proofs.YtjlolhdndholdaaDoor
