/-
  DERIVED. GIVEN WITH THE SEED: THE CARDS: each row of YtagajpoppiklnaaDoorRows.lean that lists a variable, with what it lists TIED to the program's text (the seventh form; the later family's looks); each row that meets fmt, with fmt's text TOLD by the authors' own Lean function (tested against real Go, not proved from fmt's source: count such statements apart). THE CARD IS WHAT COUNTS. Prove the row's statement (the work); the ties are given (YtagajpoppiklnaaDoorTie.lean); close each card by the builder's one call (the guide's Derived/Test/ToyasCard.lean, 'card_holds'). Laid BY PROGRAM, IN A SANDBOX (cutbox-door.mjs). By AI agents, Wed Nov 11 2026. No macro, syntax, notation, axiom, sorry.
-/
import Derived.Test.YtagajpoppiklnaaDoorRows
import GoSem.ClaimSeven
namespace Go.Proofs.YtagajpoppiklnaaDoor
namespace Rows

/-- THE TIED CARD OF 'tidewaterlaw06.PageJunk'. -/
def pageJunkCard : Claim7 := { stood := { row := pageJunkRow, standIns := [], harness := (true, "6d0242b3dadf47935a04d4531335a4472d9545d57b5daa6e83283f1539c615bf"), looks := true }, kinds := [], alts := [], laidByText := true, laidKinds := [.sentinel, .sentinel, .sentinel, .sentinel, .sentinel, .sentinel, .sentinel, .sentinel, .sentinel, .sentinel, .sentinel, .sentinel, .sentinel, .sentinel, .sentinel, .sentinel, .sentinel, .sentinel, .sentinel], laidTests := true, laidLooks := .later }
def PageJunkCardSaid : Prop := Claim7.holds Tryd.pinned (.plain (OpenSpec.ofChange pageJunkSpec)) pageJunkCard

/-- THE TIED CARD OF 'tidewaterlaw06.PageWrites'. -/
def pageWritesCard : Claim7 := { stood := { row := pageWritesRow, standIns := [], harness := (true, "6d0242b3dadf47935a04d4531335a4472d9545d57b5daa6e83283f1539c615bf"), looks := true }, kinds := [], alts := [], laidByText := true, laidKinds := [.sentinel, .sentinel, .sentinel, .sentinel, .sentinel, .sentinel, .sentinel, .sentinel, .sentinel, .sentinel, .sentinel, .sentinel, .sentinel, .sentinel, .sentinel, .sentinel, .sentinel, .sentinel, .sentinel], laidTests := true, laidLooks := .later }
def PageWritesCardSaid : Prop := Claim7.holds Tryd.pinned (.plain (OpenSpec.ofChange pageWritesSpec)) pageWritesCard

/-- THE SECOND FORM's CARD OF 'tidewaterlaw06.PageJunk'. -/
def pageJunkUptoCard : Claim7 := { stood := { row := pageJunkUptoRow, standIns := [], harness := (true, "6d0242b3dadf47935a04d4531335a4472d9545d57b5daa6e83283f1539c615bf"), looks := true }, kinds := [], alts := [], laidByText := true, laidKinds := [.sentinel, .sentinel, .sentinel, .sentinel, .sentinel, .sentinel, .sentinel, .sentinel, .sentinel, .sentinel, .sentinel, .sentinel, .sentinel, .sentinel, .sentinel, .sentinel, .sentinel, .sentinel, .sentinel], laidTests := true, laidLooks := .later }
def PageJunkUptoCardSaid : Prop := Claim7.holds Tryd.pinned (.plain (OpenSpec.upto pageJunkSpec)) pageJunkUptoCard

/-- THE SECOND FORM's CARD OF 'tidewaterlaw06.PageWrites'. -/
def pageWritesUptoCard : Claim7 := { stood := { row := pageWritesUptoRow, standIns := [], harness := (true, "6d0242b3dadf47935a04d4531335a4472d9545d57b5daa6e83283f1539c615bf"), looks := true }, kinds := [], alts := [], laidByText := true, laidKinds := [.sentinel, .sentinel, .sentinel, .sentinel, .sentinel, .sentinel, .sentinel, .sentinel, .sentinel, .sentinel, .sentinel, .sentinel, .sentinel, .sentinel, .sentinel, .sentinel, .sentinel, .sentinel, .sentinel], laidTests := true, laidLooks := .later }
def PageWritesUptoCardSaid : Prop := Claim7.holds Tryd.pinned (.plain (OpenSpec.upto pageWritesSpec)) pageWritesUptoCard
end Rows
end Go.Proofs.YtagajpoppiklnaaDoor
