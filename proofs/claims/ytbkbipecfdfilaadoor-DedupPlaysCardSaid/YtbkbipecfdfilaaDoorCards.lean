/-
  DERIVED. GIVEN WITH THE SEED: THE CARDS: each row of YtbkbipecfdfilaaDoorRows.lean that lists a variable, with what it lists TIED to the program's text (the seventh form; the later family's looks); each row that meets fmt, with fmt's text TOLD by the authors' own Lean function (tested against real Go, not proved from fmt's source: count such statements apart). THE CARD IS WHAT COUNTS. Prove the row's statement (the work); the ties are given (YtbkbipecfdfilaaDoorTie.lean); close each card by the builder's one call (the guide's Derived/Test/ToyasCard.lean, 'card_holds'). Laid BY PROGRAM, IN A SANDBOX (cutbox-door.mjs). By AI agents, Wed Nov 11 2026. No macro, syntax, notation, axiom, sorry.
-/
import Derived.Test.YtbkbipecfdfilaaDoorRows
import GoSem.ClaimSeven
namespace Go.Proofs.YtbkbipecfdfilaaDoor
namespace Rows

/-- THE TIED CARD OF 'tidewaterlaw22.DedupRises'. -/
def dedupRisesCard : Claim7 := { stood := { row := dedupRisesRow, standIns := [], harness := (true, "e460eb448d5dd4d6d3bdf1ca5c6d32a6d69d8612e1a6b9f12987225163b6199b"), looks := true }, kinds := [], alts := [], laidByText := true, laidKinds := [.sentinel, .sentinel], laidTests := true, laidLooks := .later }
def DedupRisesCardSaid : Prop := Claim7.holds Tryd.pinned (.plain (OpenSpec.ofChange dedupRisesSpec)) dedupRisesCard

/-- THE TIED CARD OF 'tidewaterlaw22.DedupPlays'. -/
def dedupPlaysCard : Claim7 := { stood := { row := dedupPlaysRow, standIns := [], harness := (true, "e460eb448d5dd4d6d3bdf1ca5c6d32a6d69d8612e1a6b9f12987225163b6199b"), looks := true }, kinds := [], alts := [], laidByText := true, laidKinds := [.sentinel, .sentinel, .sentinel, .sentinel, .sentinel, .sentinel, .sentinel, .sentinel, .sentinel, .sentinel, .sentinel, .sentinel, .sentinel, .sentinel, .sentinel, .sentinel, .sentinel, .sentinel, .sentinel], laidTests := true, laidLooks := .later }
def DedupPlaysCardSaid : Prop := Claim7.holds Tryd.pinned (.plain (OpenSpec.ofChange dedupPlaysSpec)) dedupPlaysCard

/-- THE SECOND FORM's CARD OF 'tidewaterlaw22.DedupRises'. -/
def dedupRisesUptoCard : Claim7 := { stood := { row := dedupRisesUptoRow, standIns := [], harness := (true, "e460eb448d5dd4d6d3bdf1ca5c6d32a6d69d8612e1a6b9f12987225163b6199b"), looks := true }, kinds := [], alts := [], laidByText := true, laidKinds := [.sentinel, .sentinel], laidTests := true, laidLooks := .later }
def DedupRisesUptoCardSaid : Prop := Claim7.holds Tryd.pinned (.plain (OpenSpec.upto dedupRisesSpec)) dedupRisesUptoCard

/-- THE SECOND FORM's CARD OF 'tidewaterlaw22.DedupPlays'. -/
def dedupPlaysUptoCard : Claim7 := { stood := { row := dedupPlaysUptoRow, standIns := [], harness := (true, "e460eb448d5dd4d6d3bdf1ca5c6d32a6d69d8612e1a6b9f12987225163b6199b"), looks := true }, kinds := [], alts := [], laidByText := true, laidKinds := [.sentinel, .sentinel, .sentinel, .sentinel, .sentinel, .sentinel, .sentinel, .sentinel, .sentinel, .sentinel, .sentinel, .sentinel, .sentinel, .sentinel, .sentinel, .sentinel, .sentinel, .sentinel, .sentinel], laidTests := true, laidLooks := .later }
def DedupPlaysUptoCardSaid : Prop := Claim7.holds Tryd.pinned (.plain (OpenSpec.upto dedupPlaysSpec)) dedupPlaysUptoCard
end Rows
end Go.Proofs.YtbkbipecfdfilaaDoor
