/-
  DERIVED. GIVEN WITH THE SEED: THE CARDS: each row of YtppbbkmjjpggkaaGreatDoorRows.lean that lists a variable, with what it lists TIED to the program's text (the seventh form; the later family's looks); each row that meets fmt, with fmt's text TOLD by the authors' own Lean function (tested against real Go, not proved from fmt's source: count such statements apart). THE CARD IS WHAT COUNTS. Prove the row's statement (the work); the ties are given (YtppbbkmjjpggkaaGreatDoorTie.lean); close each card by the builder's one call (the guide's Derived/Test/ToyasCard.lean, 'card_holds'). Laid BY PROGRAM, IN A SANDBOX (cutbox-door.mjs). By AI agents, Wed Nov 11 2026. No macro, syntax, notation, axiom, sorry.
-/
import Derived.Test.YtppbbkmjjpggkaaGreatDoorRows
import GoSem.ClaimSeven
namespace Go.Proofs.YtppbbkmjjpggkaaGreatDoor
namespace Rows

/-- THE TIED CARD OF 'tidewaterlaw34.NodeHandles'. -/
def nodeHandlesCard : Claim7 := { stood := { row := nodeHandlesRow, standIns := [], harness := (true, "d19ba84a0cfb91fa0962258ab7ef2a6f1a449a17eb14e12c5d04c4a7caa0a94d"), looks := true }, kinds := [], alts := [], laidByText := true, laidKinds := [.sentinel, .sentinel, .sentinel, .sentinel, .sentinel, .sentinel, .sentinel, .sentinel, .sentinel, .sentinel, .sentinel, .sentinel, .sentinel, .sentinel, .sentinel, .sentinel, .sentinel, .sentinel, .sentinel], laidTests := true, laidLooks := .later }
def NodeHandlesCardSaid : Prop := Claim7.holds Tryz.pinned (.plain (OpenSpec.ofChange nodeHandlesSpec)) nodeHandlesCard

/-- THE TIED CARD OF 'tidewaterlaw34.NodeAsks'. -/
def nodeAsksCard : Claim7 := { stood := { row := nodeAsksRow, standIns := [], harness := (true, "d19ba84a0cfb91fa0962258ab7ef2a6f1a449a17eb14e12c5d04c4a7caa0a94d"), looks := true }, kinds := [], alts := [], laidByText := true, laidKinds := [.sentinel, .sentinel, .sentinel, .sentinel, .sentinel, .sentinel, .sentinel, .sentinel, .sentinel, .sentinel, .sentinel, .sentinel, .sentinel, .sentinel, .sentinel, .sentinel, .sentinel, .sentinel, .sentinel], laidTests := true, laidLooks := .later }
def NodeAsksCardSaid : Prop := Claim7.holds Tryz.pinned (.plain (OpenSpec.ofChange nodeAsksSpec)) nodeAsksCard

/-- THE TIED CARD OF 'tidewaterlaw34.NodeOnce'. -/
def nodeOnceCard : Claim7 := { stood := { row := nodeOnceRow, standIns := [], harness := (true, "d19ba84a0cfb91fa0962258ab7ef2a6f1a449a17eb14e12c5d04c4a7caa0a94d"), looks := true }, kinds := [], alts := [], laidByText := true, laidKinds := [.sentinel, .sentinel, .sentinel, .sentinel, .sentinel, .sentinel, .sentinel, .sentinel, .sentinel, .sentinel, .sentinel, .sentinel, .sentinel, .sentinel, .sentinel, .sentinel, .sentinel, .sentinel, .sentinel], laidTests := true, laidLooks := .later }
def NodeOnceCardSaid : Prop := Claim7.holds Tryz.pinned (.plain (OpenSpec.ofChange nodeOnceSpec)) nodeOnceCard

/-- THE SECOND FORM's CARD OF 'tidewaterlaw34.NodeHandles'. -/
def nodeHandlesUptoCard : Claim7 := { stood := { row := nodeHandlesUptoRow, standIns := [], harness := (true, "d19ba84a0cfb91fa0962258ab7ef2a6f1a449a17eb14e12c5d04c4a7caa0a94d"), looks := true }, kinds := [], alts := [], laidByText := true, laidKinds := [.sentinel, .sentinel, .sentinel, .sentinel, .sentinel, .sentinel, .sentinel, .sentinel, .sentinel, .sentinel, .sentinel, .sentinel, .sentinel, .sentinel, .sentinel, .sentinel, .sentinel, .sentinel, .sentinel], laidTests := true, laidLooks := .later }
def NodeHandlesUptoCardSaid : Prop := Claim7.holds Tryz.pinned (.plain (OpenSpec.upto nodeHandlesSpec)) nodeHandlesUptoCard

/-- THE SECOND FORM's CARD OF 'tidewaterlaw34.NodeAsks'. -/
def nodeAsksUptoCard : Claim7 := { stood := { row := nodeAsksUptoRow, standIns := [], harness := (true, "d19ba84a0cfb91fa0962258ab7ef2a6f1a449a17eb14e12c5d04c4a7caa0a94d"), looks := true }, kinds := [], alts := [], laidByText := true, laidKinds := [.sentinel, .sentinel, .sentinel, .sentinel, .sentinel, .sentinel, .sentinel, .sentinel, .sentinel, .sentinel, .sentinel, .sentinel, .sentinel, .sentinel, .sentinel, .sentinel, .sentinel, .sentinel, .sentinel], laidTests := true, laidLooks := .later }
def NodeAsksUptoCardSaid : Prop := Claim7.holds Tryz.pinned (.plain (OpenSpec.upto nodeAsksSpec)) nodeAsksUptoCard

/-- THE SECOND FORM's CARD OF 'tidewaterlaw34.NodeOnce'. -/
def nodeOnceUptoCard : Claim7 := { stood := { row := nodeOnceUptoRow, standIns := [], harness := (true, "d19ba84a0cfb91fa0962258ab7ef2a6f1a449a17eb14e12c5d04c4a7caa0a94d"), looks := true }, kinds := [], alts := [], laidByText := true, laidKinds := [.sentinel, .sentinel, .sentinel, .sentinel, .sentinel, .sentinel, .sentinel, .sentinel, .sentinel, .sentinel, .sentinel, .sentinel, .sentinel, .sentinel, .sentinel, .sentinel, .sentinel, .sentinel, .sentinel], laidTests := true, laidLooks := .later }
def NodeOnceUptoCardSaid : Prop := Claim7.holds Tryz.pinned (.plain (OpenSpec.upto nodeOnceSpec)) nodeOnceUptoCard
end Rows
end Go.Proofs.YtppbbkmjjpggkaaGreatDoor
