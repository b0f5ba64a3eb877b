/-
  DERIVED. GIVEN WITH THE SEED: THE CARDS: each row of YtpnchpkklamnnaaDoorRows.lean that lists a variable, with what it lists TIED to the program's text (the seventh form; the later family's looks); each row that meets fmt, with fmt's text TOLD by the authors' own Lean function (tested against real Go, not proved from fmt's source: count such statements apart). THE CARD IS WHAT COUNTS. Prove the row's statement (the work); the ties are given (YtpnchpkklamnnaaDoorTie.lean); close each card by the builder's one call (the guide's Derived/Test/ToyasCard.lean, 'card_holds'). Laid BY PROGRAM, IN A SANDBOX (cutbox-door.mjs). By AI agents, Wed Nov 11 2026. No macro, syntax, notation, axiom, sorry.
-/
import Derived.Test.YtpnchpkklamnnaaDoorRows
import GoSem.ClaimSeven
namespace Go.Proofs.YtpnchpkklamnnaaDoor
namespace Rows

/-- THE TIED CARD OF 'tidewaterlaw01.SumsSize'. -/
def sumsSizeCard : Claim7 := { stood := { row := sumsSizeRow, standIns := [], harness := (true, "9cddc3278e7e4ab750bc9d338319eb09b231eb1f2d6857f3dc0bbefba7762185"), looks := true }, kinds := [], alts := [], laidByText := true, laidKinds := [.sentinel], laidTests := true, laidLooks := .later }
def SumsSizeCardSaid : Prop := Claim7.holds Tryd.pinned (.plain (OpenSpec.ofChange sumsSizeSpec)) sumsSizeCard

/-- THE TIED CARD OF 'tidewaterlaw01.SumsOpens'. -/
def sumsOpensCard : Claim7 := { stood := { row := sumsOpensRow, standIns := [], harness := (true, "9cddc3278e7e4ab750bc9d338319eb09b231eb1f2d6857f3dc0bbefba7762185"), looks := true }, kinds := [], alts := [], laidByText := true, laidKinds := [.sentinel, .sentinel, .sentinel, .sentinel, .sentinel, .sentinel, .sentinel, .sentinel, .sentinel, .sentinel, .sentinel, .sentinel, .sentinel, .sentinel, .sentinel, .sentinel, .sentinel, .sentinel, .sentinel], laidTests := true, laidLooks := .later }
def SumsOpensCardSaid : Prop := Claim7.holds Tryd.pinned (.plain (OpenSpec.ofChange sumsOpensSpec)) sumsOpensCard

/-- THE TIED CARD OF 'tidewaterlaw01.SumsFrames'. -/
def sumsFramesCard : Claim7 := { stood := { row := sumsFramesRow, standIns := [], harness := (true, "9cddc3278e7e4ab750bc9d338319eb09b231eb1f2d6857f3dc0bbefba7762185"), looks := true }, kinds := [], alts := [], laidByText := true, laidKinds := [.sentinel, .sentinel, .sentinel, .sentinel, .sentinel, .sentinel, .sentinel, .sentinel, .sentinel, .sentinel, .sentinel, .sentinel, .sentinel, .sentinel, .sentinel, .sentinel, .sentinel, .sentinel, .sentinel], laidTests := true, laidLooks := .later }
def SumsFramesCardSaid : Prop := Claim7.holds Tryd.pinned (.plain (OpenSpec.ofChange sumsFramesSpec)) sumsFramesCard

/-- THE TIED CARD OF 'tidewaterlaw01.SumsBurst'. -/
def sumsBurstCard : Claim7 := { stood := { row := sumsBurstRow, standIns := [], harness := (true, "9cddc3278e7e4ab750bc9d338319eb09b231eb1f2d6857f3dc0bbefba7762185"), looks := true }, kinds := [], alts := [], laidByText := true, laidKinds := [.sentinel, .sentinel, .sentinel, .sentinel, .sentinel, .sentinel, .sentinel, .sentinel, .sentinel, .sentinel, .sentinel, .sentinel, .sentinel, .sentinel, .sentinel, .sentinel, .sentinel, .sentinel, .sentinel], laidTests := true, laidLooks := .later }
def SumsBurstCardSaid : Prop := Claim7.holds Tryd.pinned (.plain (OpenSpec.ofChange sumsBurstSpec)) sumsBurstCard

/-- THE TIED CARD OF 'tidewaterlaw33.WireErrors'. -/
def wireErrorsCard : Claim7 := { stood := { row := wireErrorsRow, standIns := [], harness := (true, "9cddc3278e7e4ab750bc9d338319eb09b231eb1f2d6857f3dc0bbefba7762185"), looks := true }, kinds := [], alts := [], laidByText := true, laidKinds := [.sentinel, .sentinel, .sentinel, .sentinel, .sentinel, .sentinel, .sentinel, .sentinel, .sentinel, .sentinel, .sentinel, .sentinel, .sentinel, .sentinel, .sentinel, .sentinel, .sentinel, .sentinel, .sentinel], laidTests := true, laidLooks := .later }
def WireErrorsCardSaid : Prop := Claim7.holds Tryd.pinned (.plain (OpenSpec.ofChange wireErrorsSpec)) wireErrorsCard

/-- THE TIED CARD OF 'tidewaterlaw33.WireAsks'. -/
def wireAsksCard : Claim7 := { stood := { row := wireAsksRow, standIns := [], harness := (true, "9cddc3278e7e4ab750bc9d338319eb09b231eb1f2d6857f3dc0bbefba7762185"), looks := true }, kinds := [], alts := [], laidByText := true, laidKinds := [.sentinel, .sentinel, .sentinel, .sentinel, .sentinel, .sentinel, .sentinel, .sentinel, .sentinel, .sentinel, .sentinel, .sentinel, .sentinel, .sentinel, .sentinel, .sentinel, .sentinel, .sentinel, .sentinel], laidTests := true, laidLooks := .later }
def WireAsksCardSaid : Prop := Claim7.holds Tryd.pinned (.plain (OpenSpec.ofChange wireAsksSpec)) wireAsksCard

/-- THE TIED CARD OF 'tidewaterlaw33.WireBurst'. -/
def wireBurstCard : Claim7 := { stood := { row := wireBurstRow, standIns := [], harness := (true, "9cddc3278e7e4ab750bc9d338319eb09b231eb1f2d6857f3dc0bbefba7762185"), looks := true }, kinds := [], alts := [], laidByText := true, laidKinds := [.sentinel, .sentinel, .sentinel, .sentinel, .sentinel, .sentinel, .sentinel, .sentinel, .sentinel, .sentinel, .sentinel, .sentinel, .sentinel, .sentinel, .sentinel, .sentinel, .sentinel, .sentinel, .sentinel], laidTests := true, laidLooks := .later }
def WireBurstCardSaid : Prop := Claim7.holds Tryd.pinned (.plain (OpenSpec.ofChange wireBurstSpec)) wireBurstCard

/-- THE TIED CARD OF 'tidewaterlaw33.WireTells'. -/
def wireTellsCard : Claim7 := { stood := { row := wireTellsRow, standIns := [], harness := (true, "9cddc3278e7e4ab750bc9d338319eb09b231eb1f2d6857f3dc0bbefba7762185"), looks := true }, kinds := [], alts := [], laidByText := true, laidKinds := [.sentinel, .sentinel, .sentinel, .sentinel, .sentinel, .sentinel, .sentinel, .sentinel, .sentinel, .sentinel, .sentinel, .sentinel, .sentinel, .sentinel, .sentinel, .sentinel, .sentinel, .sentinel, .sentinel], laidTests := true, laidLooks := .later }
def WireTellsCardSaid : Prop := Claim7.holds Tryd.pinned (.plain (OpenSpec.ofChange wireTellsSpec)) wireTellsCard

/-- THE TIED CARD OF 'tidewaterlaw04.PackLeast'. -/
def packLeastCard : Claim7 := { stood := { row := packLeastRow, standIns := [], harness := (true, "9cddc3278e7e4ab750bc9d338319eb09b231eb1f2d6857f3dc0bbefba7762185"), looks := true }, kinds := [], alts := [], laidByText := true, laidKinds := [.sentinel, .sentinel, .sentinel, .sentinel, .sentinel, .sentinel, .sentinel, .sentinel, .sentinel, .sentinel, .sentinel, .sentinel, .sentinel, .sentinel, .sentinel, .sentinel, .sentinel, .sentinel, .sentinel], laidTests := true, laidLooks := .later }
def PackLeastCardSaid : Prop := Claim7.holds Tryd.pinned (.plain (OpenSpec.ofChange packLeastSpec)) packLeastCard

/-- THE TIED CARD OF 'tidewaterlaw04.PackStops'. -/
def packStopsCard : Claim7 := { stood := { row := packStopsRow, standIns := [], harness := (true, "9cddc3278e7e4ab750bc9d338319eb09b231eb1f2d6857f3dc0bbefba7762185"), looks := true }, kinds := [], alts := [], laidByText := true, laidKinds := [.sentinel, .sentinel, .sentinel, .sentinel, .sentinel, .sentinel, .sentinel, .sentinel, .sentinel, .sentinel, .sentinel, .sentinel, .sentinel, .sentinel, .sentinel, .sentinel, .sentinel, .sentinel, .sentinel], laidTests := true, laidLooks := .later }
def PackStopsCardSaid : Prop := Claim7.holds Tryd.pinned (.plain (OpenSpec.ofChange packStopsSpec)) packStopsCard

/-- THE TIED CARD OF 'tidewaterlaw04.PackWrites'. -/
def packWritesCard : Claim7 := { stood := { row := packWritesRow, standIns := [], harness := (true, "9cddc3278e7e4ab750bc9d338319eb09b231eb1f2d6857f3dc0bbefba7762185"), looks := true }, kinds := [], alts := [], laidByText := true, laidKinds := [.sentinel, .sentinel, .sentinel, .sentinel, .sentinel, .sentinel, .sentinel, .sentinel, .sentinel, .sentinel, .sentinel, .sentinel, .sentinel, .sentinel, .sentinel, .sentinel, .sentinel, .sentinel, .sentinel], laidTests := true, laidLooks := .later }
def PackWritesCardSaid : Prop := Claim7.holds Tryd.pinned (.plain (OpenSpec.ofChange packWritesSpec)) packWritesCard

/-- THE TIED CARD OF 'tidewaterlaw24.CheckParts'. -/
def checkPartsCard : Claim7 := { stood := { row := checkPartsRow, standIns := [], harness := (true, "9cddc3278e7e4ab750bc9d338319eb09b231eb1f2d6857f3dc0bbefba7762185"), looks := true }, kinds := [], alts := [], laidByText := true, laidKinds := [.sentinel, .sentinel, .sentinel, .sentinel, .sentinel, .sentinel, .sentinel, .sentinel, .sentinel, .sentinel, .sentinel, .sentinel, .sentinel, .sentinel, .sentinel, .sentinel, .sentinel, .sentinel, .sentinel], laidTests := true, laidLooks := .later }
def CheckPartsCardSaid : Prop := Claim7.holds Tryd.pinned (.plain (OpenSpec.ofChange checkPartsSpec)) checkPartsCard

/-- THE SECOND FORM's CARD OF 'tidewaterlaw01.SumsSize'. -/
def sumsSizeUptoCard : Claim7 := { stood := { row := sumsSizeUptoRow, standIns := [], harness := (true, "9cddc3278e7e4ab750bc9d338319eb09b231eb1f2d6857f3dc0bbefba7762185"), looks := true }, kinds := [], alts := [], laidByText := true, laidKinds := [.sentinel], laidTests := true, laidLooks := .later }
def SumsSizeUptoCardSaid : Prop := Claim7.holds Tryd.pinned (.plain (OpenSpec.upto sumsSizeSpec)) sumsSizeUptoCard

/-- THE SECOND FORM's CARD OF 'tidewaterlaw01.SumsOpens'. -/
def sumsOpensUptoCard : Claim7 := { stood := { row := sumsOpensUptoRow, standIns := [], harness := (true, "9cddc3278e7e4ab750bc9d338319eb09b231eb1f2d6857f3dc0bbefba7762185"), looks := true }, kinds := [], alts := [], laidByText := true, laidKinds := [.sentinel, .sentinel, .sentinel, .sentinel, .sentinel, .sentinel, .sentinel, .sentinel, .sentinel, .sentinel, .sentinel, .sentinel, .sentinel, .sentinel, .sentinel, .sentinel, .sentinel, .sentinel, .sentinel], laidTests := true, laidLooks := .later }
def SumsOpensUptoCardSaid : Prop := Claim7.holds Tryd.pinned (.plain (OpenSpec.upto sumsOpensSpec)) sumsOpensUptoCard

/-- THE SECOND FORM's CARD OF 'tidewaterlaw01.SumsFrames'. -/
def sumsFramesUptoCard : Claim7 := { stood := { row := sumsFramesUptoRow, standIns := [], harness := (true, "9cddc3278e7e4ab750bc9d338319eb09b231eb1f2d6857f3dc0bbefba7762185"), looks := true }, kinds := [], alts := [], laidByText := true, laidKinds := [.sentinel, .sentinel, .sentinel, .sentinel, .sentinel, .sentinel, .sentinel, .sentinel, .sentinel, .sentinel, .sentinel, .sentinel, .sentinel, .sentinel, .sentinel, .sentinel, .sentinel, .sentinel, .sentinel], laidTests := true, laidLooks := .later }
def SumsFramesUptoCardSaid : Prop := Claim7.holds Tryd.pinned (.plain (OpenSpec.upto sumsFramesSpec)) sumsFramesUptoCard

/-- THE SECOND FORM's CARD OF 'tidewaterlaw01.SumsBurst'. -/
def sumsBurstUptoCard : Claim7 := { stood := { row := sumsBurstUptoRow, standIns := [], harness := (true, "9cddc3278e7e4ab750bc9d338319eb09b231eb1f2d6857f3dc0bbefba7762185"), looks := true }, kinds := [], alts := [], laidByText := true, laidKinds := [.sentinel, .sentinel, .sentinel, .sentinel, .sentinel, .sentinel, .sentinel, .sentinel, .sentinel, .sentinel, .sentinel, .sentinel, .sentinel, .sentinel, .sentinel, .sentinel, .sentinel, .sentinel, .sentinel], laidTests := true, laidLooks := .later }
def SumsBurstUptoCardSaid : Prop := Claim7.holds Tryd.pinned (.plain (OpenSpec.upto sumsBurstSpec)) sumsBurstUptoCard

/-- THE SECOND FORM's CARD OF 'tidewaterlaw33.WireErrors'. -/
def wireErrorsUptoCard : Claim7 := { stood := { row := wireErrorsUptoRow, standIns := [], harness := (true, "9cddc3278e7e4ab750bc9d338319eb09b231eb1f2d6857f3dc0bbefba7762185"), looks := true }, kinds := [], alts := [], laidByText := true, laidKinds := [.sentinel, .sentinel, .sentinel, .sentinel, .sentinel, .sentinel, .sentinel, .sentinel, .sentinel, .sentinel, .sentinel, .sentinel, .sentinel, .sentinel, .sentinel, .sentinel, .sentinel, .sentinel, .sentinel], laidTests := true, laidLooks := .later }
def WireErrorsUptoCardSaid : Prop := Claim7.holds Tryd.pinned (.plain (OpenSpec.upto wireErrorsSpec)) wireErrorsUptoCard

/-- THE SECOND FORM's CARD OF 'tidewaterlaw33.WireAsks'. -/
def wireAsksUptoCard : Claim7 := { stood := { row := wireAsksUptoRow, standIns := [], harness := (true, "9cddc3278e7e4ab750bc9d338319eb09b231eb1f2d6857f3dc0bbefba7762185"), looks := true }, kinds := [], alts := [], laidByText := true, laidKinds := [.sentinel, .sentinel, .sentinel, .sentinel, .sentinel, .sentinel, .sentinel, .sentinel, .sentinel, .sentinel, .sentinel, .sentinel, .sentinel, .sentinel, .sentinel, .sentinel, .sentinel, .sentinel, .sentinel], laidTests := true, laidLooks := .later }
def WireAsksUptoCardSaid : Prop := Claim7.holds Tryd.pinned (.plain (OpenSpec.upto wireAsksSpec)) wireAsksUptoCard

/-- THE SECOND FORM's CARD OF 'tidewaterlaw33.WireBurst'. -/
def wireBurstUptoCard : Claim7 := { stood := { row := wireBurstUptoRow, standIns := [], harness := (true, "9cddc3278e7e4ab750bc9d338319eb09b231eb1f2d6857f3dc0bbefba7762185"), looks := true }, kinds := [], alts := [], laidByText := true, laidKinds := [.sentinel, .sentinel, .sentinel, .sentinel, .sentinel, .sentinel, .sentinel, .sentinel, .sentinel, .sentinel, .sentinel, .sentinel, .sentinel, .sentinel, .sentinel, .sentinel, .sentinel, .sentinel, .sentinel], laidTests := true, laidLooks := .later }
def WireBurstUptoCardSaid : Prop := Claim7.holds Tryd.pinned (.plain (OpenSpec.upto wireBurstSpec)) wireBurstUptoCard

/-- THE SECOND FORM's CARD OF 'tidewaterlaw33.WireTells'. -/
def wireTellsUptoCard : Claim7 := { stood := { row := wireTellsUptoRow, standIns := [], harness := (true, "9cddc3278e7e4ab750bc9d338319eb09b231eb1f2d6857f3dc0bbefba7762185"), looks := true }, kinds := [], alts := [], laidByText := true, laidKinds := [.sentinel, .sentinel, .sentinel, .sentinel, .sentinel, .sentinel, .sentinel, .sentinel, .sentinel, .sentinel, .sentinel, .sentinel, .sentinel, .sentinel, .sentinel, .sentinel, .sentinel, .sentinel, .sentinel], laidTests := true, laidLooks := .later }
def WireTellsUptoCardSaid : Prop := Claim7.holds Tryd.pinned (.plain (OpenSpec.upto wireTellsSpec)) wireTellsUptoCard

/-- THE SECOND FORM's CARD OF 'tidewaterlaw04.PackLeast'. -/
def packLeastUptoCard : Claim7 := { stood := { row := packLeastUptoRow, standIns := [], harness := (true, "9cddc3278e7e4ab750bc9d338319eb09b231eb1f2d6857f3dc0bbefba7762185"), looks := true }, kinds := [], alts := [], laidByText := true, laidKinds := [.sentinel, .sentinel, .sentinel, .sentinel, .sentinel, .sentinel, .sentinel, .sentinel, .sentinel, .sentinel, .sentinel, .sentinel, .sentinel, .sentinel, .sentinel, .sentinel, .sentinel, .sentinel, .sentinel], laidTests := true, laidLooks := .later }
def PackLeastUptoCardSaid : Prop := Claim7.holds Tryd.pinned (.plain (OpenSpec.upto packLeastSpec)) packLeastUptoCard

/-- THE SECOND FORM's CARD OF 'tidewaterlaw04.PackStops'. -/
def packStopsUptoCard : Claim7 := { stood := { row := packStopsUptoRow, standIns := [], harness := (true, "9cddc3278e7e4ab750bc9d338319eb09b231eb1f2d6857f3dc0bbefba7762185"), looks := true }, kinds := [], alts := [], laidByText := true, laidKinds := [.sentinel, .sentinel, .sentinel, .sentinel, .sentinel, .sentinel, .sentinel, .sentinel, .sentinel, .sentinel, .sentinel, .sentinel, .sentinel, .sentinel, .sentinel, .sentinel, .sentinel, .sentinel, .sentinel], laidTests := true, laidLooks := .later }
def PackStopsUptoCardSaid : Prop := Claim7.holds Tryd.pinned (.plain (OpenSpec.upto packStopsSpec)) packStopsUptoCard

/-- THE SECOND FORM's CARD OF 'tidewaterlaw04.PackWrites'. -/
def packWritesUptoCard : Claim7 := { stood := { row := packWritesUptoRow, standIns := [], harness := (true, "9cddc3278e7e4ab750bc9d338319eb09b231eb1f2d6857f3dc0bbefba7762185"), looks := true }, kinds := [], alts := [], laidByText := true, laidKinds := [.sentinel, .sentinel, .sentinel, .sentinel, .sentinel, .sentinel, .sentinel, .sentinel, .sentinel, .sentinel, .sentinel, .sentinel, .sentinel, .sentinel, .sentinel, .sentinel, .sentinel, .sentinel, .sentinel], laidTests := true, laidLooks := .later }
def PackWritesUptoCardSaid : Prop := Claim7.holds Tryd.pinned (.plain (OpenSpec.upto packWritesSpec)) packWritesUptoCard

/-- THE SECOND FORM's CARD OF 'tidewaterlaw24.CheckParts'. -/
def checkPartsUptoCard : Claim7 := { stood := { row := checkPartsUptoRow, standIns := [], harness := (true, "9cddc3278e7e4ab750bc9d338319eb09b231eb1f2d6857f3dc0bbefba7762185"), looks := true }, kinds := [], alts := [], laidByText := true, laidKinds := [.sentinel, .sentinel, .sentinel, .sentinel, .sentinel, .sentinel, .sentinel, .sentinel, .sentinel, .sentinel, .sentinel, .sentinel, .sentinel, .sentinel, .sentinel, .sentinel, .sentinel, .sentinel, .sentinel], laidTests := true, laidLooks := .later }
def CheckPartsUptoCardSaid : Prop := Claim7.holds Tryd.pinned (.plain (OpenSpec.upto checkPartsSpec)) checkPartsUptoCard
end Rows
end Go.Proofs.YtpnchpkklamnnaaDoor
