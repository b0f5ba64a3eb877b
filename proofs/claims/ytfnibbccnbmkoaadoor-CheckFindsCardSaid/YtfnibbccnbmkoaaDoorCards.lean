/-
  DERIVED. GIVEN WITH THE SEED: THE CARDS: each row of YtfnibbccnbmkoaaDoorRows.lean that lists a variable, with what it lists TIED to the program's text (the seventh form; the later family's looks); each row that meets fmt, with fmt's text TOLD by the authors' own Lean function (tested against real Go, not proved from fmt's source: count such statements apart). THE CARD IS WHAT COUNTS. Prove the row's statement (the work); the ties are given (YtfnibbccnbmkoaaDoorTie.lean); close each card by the builder's one call (the guide's Derived/Test/ToyasCard.lean, 'card_holds'). Laid BY PROGRAM, IN A SANDBOX (cutbox-door.mjs). By AI agents, Wed Nov 11 2026. No macro, syntax, notation, axiom, sorry.
-/
import Derived.Test.YtfnibbccnbmkoaaDoorRows
import GoSem.ClaimSeven
namespace Go.Proofs.YtfnibbccnbmkoaaDoor
namespace Rows

/-- THE TIED CARD OF 'tidewaterlaw24.CheckFinds'. -/
def checkFindsCard : Claim7 := { stood := { row := checkFindsRow, standIns := [], harness := (true, "6d06847786b44a7409c396a99109985b4f4a38a2062c3a7213348aeac22bbcbf"), looks := false }, kinds := [], alts := [], laidByText := true, laidKinds := [.sentinel, .sentinel], laidTests := true, laidLooks := .later }
def CheckFindsCardSaid : Prop := Claim7.holds Tryd.pinned (.plain (OpenSpec.ofChange checkFindsSpec)) checkFindsCard

/-- THE TIED CARD OF 'tidewaterlaw24.CheckBack'. -/
def checkBackCard : Claim7 := { stood := { row := checkBackRow, standIns := [], harness := (true, "6d06847786b44a7409c396a99109985b4f4a38a2062c3a7213348aeac22bbcbf"), looks := false }, kinds := [], alts := [], laidByText := true, laidKinds := [.sentinel, .sentinel], laidTests := true, laidLooks := .later }
def CheckBackCardSaid : Prop := Claim7.holds Tryd.pinned (.plain (OpenSpec.ofChange checkBackSpec)) checkBackCard

/-- THE SECOND FORM's CARD OF 'tidewaterlaw24.CheckFinds'. -/
def checkFindsUptoCard : Claim7 := { stood := { row := checkFindsUptoRow, standIns := [], harness := (true, "6d06847786b44a7409c396a99109985b4f4a38a2062c3a7213348aeac22bbcbf"), looks := false }, kinds := [], alts := [], laidByText := true, laidKinds := [.sentinel, .sentinel], laidTests := true, laidLooks := .later }
def CheckFindsUptoCardSaid : Prop := Claim7.holds Tryd.pinned (.plain (OpenSpec.upto checkFindsSpec)) checkFindsUptoCard

/-- THE SECOND FORM's CARD OF 'tidewaterlaw24.CheckBack'. -/
def checkBackUptoCard : Claim7 := { stood := { row := checkBackUptoRow, standIns := [], harness := (true, "6d06847786b44a7409c396a99109985b4f4a38a2062c3a7213348aeac22bbcbf"), looks := false }, kinds := [], alts := [], laidByText := true, laidKinds := [.sentinel, .sentinel], laidTests := true, laidLooks := .later }
def CheckBackUptoCardSaid : Prop := Claim7.holds Tryd.pinned (.plain (OpenSpec.upto checkBackSpec)) checkBackUptoCard
end Rows
end Go.Proofs.YtfnibbccnbmkoaaDoor
