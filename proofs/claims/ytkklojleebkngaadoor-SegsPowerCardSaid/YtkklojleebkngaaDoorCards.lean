/-
  DERIVED. GIVEN WITH THE SEED: THE CARDS: each row of YtkklojleebkngaaDoorRows.lean that lists a variable, with what it lists TIED to the program's text (the seventh form; the later family's looks); each row that meets fmt, with fmt's text TOLD by the authors' own Lean function (tested against real Go, not proved from fmt's source: count such statements apart). THE CARD IS WHAT COUNTS. Prove the row's statement (the work); the ties are given (YtkklojleebkngaaDoorTie.lean); close each card by the builder's one call (the guide's Derived/Test/ToyasCard.lean, 'card_holds'). Laid BY PROGRAM, IN A SANDBOX (cutbox-door.mjs). By AI agents, Wed Nov 11 2026. No macro, syntax, notation, axiom, sorry.
-/
import Derived.Test.YtkklojleebkngaaDoorRows
import GoSem.ClaimSeven
namespace Go.Proofs.YtkklojleebkngaaDoor
namespace Rows

/-- THE TIED CARD OF 'tidewaterlaw08.SegsFill'. -/
def segsFillCard : Claim7 := { stood := { row := segsFillRow, standIns := [], harness := (true, "cf934fec5ec54d6b5fa21ad38542110c8afa5d58fee0ad8a89c260dd3bd7a544"), looks := true }, kinds := [], alts := [], laidByText := true, laidKinds := [.sentinel, .sentinel, .sentinel, .sentinel, .sentinel, .sentinel, .sentinel, .sentinel, .sentinel, .sentinel, .sentinel, .sentinel, .sentinel, .sentinel, .sentinel, .sentinel, .sentinel, .sentinel, .sentinel], laidTests := true, laidLooks := .later }
def SegsFillCardSaid : Prop := Claim7.holds Tryd.pinned (.plain (OpenSpec.ofChange segsFillSpec)) segsFillCard

/-- THE TIED CARD OF 'tidewaterlaw08.SegsPlays'. -/
def segsPlaysCard : Claim7 := { stood := { row := segsPlaysRow, standIns := [], harness := (true, "cf934fec5ec54d6b5fa21ad38542110c8afa5d58fee0ad8a89c260dd3bd7a544"), looks := true }, kinds := [], alts := [], laidByText := true, laidKinds := [.sentinel, .sentinel, .sentinel, .sentinel, .sentinel, .sentinel, .sentinel, .sentinel, .sentinel, .sentinel, .sentinel, .sentinel, .sentinel, .sentinel, .sentinel, .sentinel, .sentinel, .sentinel, .sentinel], laidTests := true, laidLooks := .later }
def SegsPlaysCardSaid : Prop := Claim7.holds Tryd.pinned (.plain (OpenSpec.ofChange segsPlaysSpec)) segsPlaysCard

/-- THE TIED CARD OF 'tidewaterlaw08.SegsPower'. -/
def segsPowerCard : Claim7 := { stood := { row := segsPowerRow, standIns := [], harness := (true, "cf934fec5ec54d6b5fa21ad38542110c8afa5d58fee0ad8a89c260dd3bd7a544"), looks := true }, kinds := [], alts := [], laidByText := true, laidKinds := [.sentinel, .sentinel, .sentinel, .sentinel, .sentinel, .sentinel, .sentinel, .sentinel, .sentinel, .sentinel, .sentinel, .sentinel, .sentinel, .sentinel, .sentinel, .sentinel, .sentinel, .sentinel, .sentinel], laidTests := true, laidLooks := .later }
def SegsPowerCardSaid : Prop := Claim7.holds Tryd.pinned (.plain (OpenSpec.ofChange segsPowerSpec)) segsPowerCard

/-- THE SECOND FORM's CARD OF 'tidewaterlaw08.SegsFill'. -/
def segsFillUptoCard : Claim7 := { stood := { row := segsFillUptoRow, standIns := [], harness := (true, "cf934fec5ec54d6b5fa21ad38542110c8afa5d58fee0ad8a89c260dd3bd7a544"), looks := true }, kinds := [], alts := [], laidByText := true, laidKinds := [.sentinel, .sentinel, .sentinel, .sentinel, .sentinel, .sentinel, .sentinel, .sentinel, .sentinel, .sentinel, .sentinel, .sentinel, .sentinel, .sentinel, .sentinel, .sentinel, .sentinel, .sentinel, .sentinel], laidTests := true, laidLooks := .later }
def SegsFillUptoCardSaid : Prop := Claim7.holds Tryd.pinned (.plain (OpenSpec.upto segsFillSpec)) segsFillUptoCard

/-- THE SECOND FORM's CARD OF 'tidewaterlaw08.SegsPlays'. -/
def segsPlaysUptoCard : Claim7 := { stood := { row := segsPlaysUptoRow, standIns := [], harness := (true, "cf934fec5ec54d6b5fa21ad38542110c8afa5d58fee0ad8a89c260dd3bd7a544"), looks := true }, kinds := [], alts := [], laidByText := true, laidKinds := [.sentinel, .sentinel, .sentinel, .sentinel, .sentinel, .sentinel, .sentinel, .sentinel, .sentinel, .sentinel, .sentinel, .sentinel, .sentinel, .sentinel, .sentinel, .sentinel, .sentinel, .sentinel, .sentinel], laidTests := true, laidLooks := .later }
def SegsPlaysUptoCardSaid : Prop := Claim7.holds Tryd.pinned (.plain (OpenSpec.upto segsPlaysSpec)) segsPlaysUptoCard

/-- THE SECOND FORM's CARD OF 'tidewaterlaw08.SegsPower'. -/
def segsPowerUptoCard : Claim7 := { stood := { row := segsPowerUptoRow, standIns := [], harness := (true, "cf934fec5ec54d6b5fa21ad38542110c8afa5d58fee0ad8a89c260dd3bd7a544"), looks := true }, kinds := [], alts := [], laidByText := true, laidKinds := [.sentinel, .sentinel, .sentinel, .sentinel, .sentinel, .sentinel, .sentinel, .sentinel, .sentinel, .sentinel, .sentinel, .sentinel, .sentinel, .sentinel, .sentinel, .sentinel, .sentinel, .sentinel, .sentinel], laidTests := true, laidLooks := .later }
def SegsPowerUptoCardSaid : Prop := Claim7.holds Tryd.pinned (.plain (OpenSpec.upto segsPowerSpec)) segsPowerUptoCard
end Rows
end Go.Proofs.YtkklojleebkngaaDoor
