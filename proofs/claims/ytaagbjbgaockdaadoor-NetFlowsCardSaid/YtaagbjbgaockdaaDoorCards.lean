/-
  DERIVED. GIVEN WITH THE SEED: THE CARDS: each row of YtaagbjbgaockdaaDoorRows.lean that lists a variable, with what it lists TIED to the program's text (the seventh form; the later family's looks); each row that meets fmt, with fmt's text TOLD by the authors' own Lean function (tested against real Go, not proved from fmt's source: count such statements apart). THE CARD IS WHAT COUNTS. Prove the row's statement (the work); the ties are given (YtaagbjbgaockdaaDoorTie.lean); close each card by the builder's one call (the guide's Derived/Test/ToyasCard.lean, 'card_holds'). Laid BY PROGRAM, IN A SANDBOX (cutbox-door.mjs). By AI agents, Wed Nov 11 2026. No macro, syntax, notation, axiom, sorry.
-/
import Derived.Test.YtaagbjbgaockdaaDoorRows
import GoSem.ClaimSeven
namespace Go.Proofs.YtaagbjbgaockdaaDoor
namespace Rows

/-- THE TIED CARD OF 'tidewaterlaw32.NetSent'. -/
def netSentCard : Claim7 := { stood := { row := netSentRow, standIns := [], harness := (true, "158c50eb724dba039d1ea360220108caf1ed9357cc417b047d1d2d1f3cf183f2"), looks := true }, kinds := [], alts := [], laidByText := true, laidKinds := [.sentinel, .sentinel, .sentinel, .sentinel, .sentinel, .sentinel, .sentinel, .sentinel, .sentinel, .sentinel, .sentinel, .sentinel, .sentinel, .sentinel, .sentinel, .sentinel, .sentinel, .sentinel, .sentinel], laidTests := true, laidLooks := .later }
def NetSentCardSaid : Prop := Claim7.holds Tryd.pinned (.plain (OpenSpec.ofChange netSentSpec)) netSentCard

/-- THE TIED CARD OF 'tidewaterlaw32.NetPlays'. -/
def netPlaysCard : Claim7 := { stood := { row := netPlaysRow, standIns := [], harness := (true, "158c50eb724dba039d1ea360220108caf1ed9357cc417b047d1d2d1f3cf183f2"), looks := true }, kinds := [], alts := [], laidByText := true, laidKinds := [.sentinel, .sentinel, .sentinel, .sentinel, .sentinel, .sentinel, .sentinel, .sentinel, .sentinel, .sentinel, .sentinel, .sentinel, .sentinel, .sentinel, .sentinel, .sentinel, .sentinel, .sentinel, .sentinel], laidTests := true, laidLooks := .later }
def NetPlaysCardSaid : Prop := Claim7.holds Tryd.pinned (.plain (OpenSpec.ofChange netPlaysSpec)) netPlaysCard

/-- THE TIED CARD OF 'tidewaterlaw32.NetFlows'. -/
def netFlowsCard : Claim7 := { stood := { row := netFlowsRow, standIns := [], harness := (true, "158c50eb724dba039d1ea360220108caf1ed9357cc417b047d1d2d1f3cf183f2"), looks := true }, kinds := [], alts := [], laidByText := true, laidKinds := [.sentinel, .sentinel, .sentinel, .sentinel, .sentinel, .sentinel, .sentinel, .sentinel, .sentinel, .sentinel, .sentinel, .sentinel, .sentinel, .sentinel, .sentinel, .sentinel, .sentinel, .sentinel, .sentinel], laidTests := true, laidLooks := .later }
def NetFlowsCardSaid : Prop := Claim7.holds Tryd.pinned (.plain (OpenSpec.ofChange netFlowsSpec)) netFlowsCard

/-- THE SECOND FORM's CARD OF 'tidewaterlaw32.NetSent'. -/
def netSentUptoCard : Claim7 := { stood := { row := netSentUptoRow, standIns := [], harness := (true, "158c50eb724dba039d1ea360220108caf1ed9357cc417b047d1d2d1f3cf183f2"), looks := true }, kinds := [], alts := [], laidByText := true, laidKinds := [.sentinel, .sentinel, .sentinel, .sentinel, .sentinel, .sentinel, .sentinel, .sentinel, .sentinel, .sentinel, .sentinel, .sentinel, .sentinel, .sentinel, .sentinel, .sentinel, .sentinel, .sentinel, .sentinel], laidTests := true, laidLooks := .later }
def NetSentUptoCardSaid : Prop := Claim7.holds Tryd.pinned (.plain (OpenSpec.upto netSentSpec)) netSentUptoCard

/-- THE SECOND FORM's CARD OF 'tidewaterlaw32.NetPlays'. -/
def netPlaysUptoCard : Claim7 := { stood := { row := netPlaysUptoRow, standIns := [], harness := (true, "158c50eb724dba039d1ea360220108caf1ed9357cc417b047d1d2d1f3cf183f2"), looks := true }, kinds := [], alts := [], laidByText := true, laidKinds := [.sentinel, .sentinel, .sentinel, .sentinel, .sentinel, .sentinel, .sentinel, .sentinel, .sentinel, .sentinel, .sentinel, .sentinel, .sentinel, .sentinel, .sentinel, .sentinel, .sentinel, .sentinel, .sentinel], laidTests := true, laidLooks := .later }
def NetPlaysUptoCardSaid : Prop := Claim7.holds Tryd.pinned (.plain (OpenSpec.upto netPlaysSpec)) netPlaysUptoCard

/-- THE SECOND FORM's CARD OF 'tidewaterlaw32.NetFlows'. -/
def netFlowsUptoCard : Claim7 := { stood := { row := netFlowsUptoRow, standIns := [], harness := (true, "158c50eb724dba039d1ea360220108caf1ed9357cc417b047d1d2d1f3cf183f2"), looks := true }, kinds := [], alts := [], laidByText := true, laidKinds := [.sentinel, .sentinel, .sentinel, .sentinel, .sentinel, .sentinel, .sentinel, .sentinel, .sentinel, .sentinel, .sentinel, .sentinel, .sentinel, .sentinel, .sentinel, .sentinel, .sentinel, .sentinel, .sentinel], laidTests := true, laidLooks := .later }
def NetFlowsUptoCardSaid : Prop := Claim7.holds Tryd.pinned (.plain (OpenSpec.upto netFlowsSpec)) netFlowsUptoCard
end Rows
end Go.Proofs.YtaagbjbgaockdaaDoor
