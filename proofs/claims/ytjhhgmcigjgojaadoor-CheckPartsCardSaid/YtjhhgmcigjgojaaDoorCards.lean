/-
  DERIVED. GIVEN WITH THE SEED: THE CARDS: each row of YtjhhgmcigjgojaaDoorRows.lean that lists a variable, with what it lists TIED to the program's text (the seventh form; the later family's looks); each row that meets fmt, with fmt's text TOLD by the authors' own Lean function (tested against real Go, not proved from fmt's source: count such statements apart). THE CARD IS WHAT COUNTS. Prove the row's statement (the work); the ties are given (YtjhhgmcigjgojaaDoorTie.lean); close each card by the builder's one call (the guide's Derived/Test/ToyasCard.lean, 'card_holds'). Laid BY PROGRAM, IN A SANDBOX (cutbox-door.mjs). By AI agents, Wed Nov 11 2026. No macro, syntax, notation, axiom, sorry.
-/
import Derived.Test.YtjhhgmcigjgojaaDoorRows
import GoSem.ClaimSeven
namespace Go.Proofs.YtjhhgmcigjgojaaDoor
namespace Rows

/-- THE TIED CARD OF 'tidewaterlaw24.CheckParts'. -/
def checkPartsCard : Claim7 := { stood := { row := checkPartsRow, standIns := [], harness := (true, "457c5be23cf3628de14258f729e91b218ea031fcf2c880cca270a1cc91762ca7"), looks := true }, kinds := [], alts := [], laidByText := true, laidKinds := [.sentinel, .sentinel, .sentinel, .sentinel, .sentinel, .sentinel, .sentinel, .sentinel, .sentinel, .sentinel, .sentinel, .sentinel, .sentinel, .sentinel, .sentinel, .sentinel, .sentinel, .sentinel, .sentinel], laidTests := true, laidLooks := .later }
def CheckPartsCardSaid : Prop := Claim7.holds Tryd.pinned (.plain (OpenSpec.ofChange checkPartsSpec)) checkPartsCard

/-- THE SECOND FORM's CARD OF 'tidewaterlaw24.CheckParts'. -/
def checkPartsUptoCard : Claim7 := { stood := { row := checkPartsUptoRow, standIns := [], harness := (true, "457c5be23cf3628de14258f729e91b218ea031fcf2c880cca270a1cc91762ca7"), looks := true }, kinds := [], alts := [], laidByText := true, laidKinds := [.sentinel, .sentinel, .sentinel, .sentinel, .sentinel, .sentinel, .sentinel, .sentinel, .sentinel, .sentinel, .sentinel, .sentinel, .sentinel, .sentinel, .sentinel, .sentinel, .sentinel, .sentinel, .sentinel], laidTests := true, laidLooks := .later }
def CheckPartsUptoCardSaid : Prop := Claim7.holds Tryd.pinned (.plain (OpenSpec.upto checkPartsSpec)) checkPartsUptoCard
end Rows
end Go.Proofs.YtjhhgmcigjgojaaDoor
