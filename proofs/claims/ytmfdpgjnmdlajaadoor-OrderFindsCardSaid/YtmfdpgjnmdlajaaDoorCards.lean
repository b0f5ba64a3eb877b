/-
  DERIVED. GIVEN WITH THE SEED: THE CARDS: each row of YtmfdpgjnmdlajaaDoorRows.lean that lists a variable, with what it lists TIED to the program's text (the seventh form; the later family's looks); each row that meets fmt, with fmt's text TOLD by the authors' own Lean function (tested against real Go, not proved from fmt's source: count such statements apart). THE CARD IS WHAT COUNTS. Prove the row's statement (the work); the ties are given (YtmfdpgjnmdlajaaDoorTie.lean); close each card by the builder's one call (the guide's Derived/Test/ToyasCard.lean, 'card_holds'). Laid BY PROGRAM, IN A SANDBOX (cutbox-door.mjs). By AI agents, Wed Nov 11 2026. No macro, syntax, notation, axiom, sorry.
-/
import Derived.Test.YtmfdpgjnmdlajaaDoorRows
import GoSem.ClaimSeven
namespace Go.Proofs.YtmfdpgjnmdlajaaDoor
namespace Rows

/-- THE TIED CARD OF 'tidewaterlaw35.OrderFinds'. -/
def orderFindsCard : Claim7 := { stood := { row := orderFindsRow, standIns := [], harness := (true, "2547ea64ef5b84f2cea631f14d46ebc3d7b903e9807ae1c7c45f3b3033b81d1d"), looks := true }, kinds := [], alts := [], laidByText := true, laidKinds := [.sentinel, .sentinel, .sentinel, .sentinel, .sentinel, .sentinel, .sentinel, .sentinel, .sentinel, .sentinel, .sentinel, .sentinel, .sentinel, .sentinel, .sentinel, .sentinel, .sentinel, .sentinel, .sentinel], laidTests := true, laidLooks := .later }
def OrderFindsCardSaid : Prop := Claim7.holds Tryd.pinned (.plain (OpenSpec.ofChange orderFindsSpec)) orderFindsCard

/-- THE TIED CARD OF 'tidewaterlaw35.OrderLimits'. -/
def orderLimitsCard : Claim7 := { stood := { row := orderLimitsRow, standIns := [], harness := (true, "2547ea64ef5b84f2cea631f14d46ebc3d7b903e9807ae1c7c45f3b3033b81d1d"), looks := true }, kinds := [], alts := [], laidByText := true, laidKinds := [.sentinel, .sentinel, .sentinel, .sentinel, .sentinel, .sentinel, .sentinel, .sentinel, .sentinel, .sentinel, .sentinel, .sentinel, .sentinel, .sentinel, .sentinel, .sentinel, .sentinel, .sentinel, .sentinel], laidTests := true, laidLooks := .later }
def OrderLimitsCardSaid : Prop := Claim7.holds Tryd.pinned (.plain (OpenSpec.ofChange orderLimitsSpec)) orderLimitsCard

/-- THE TIED CARD OF 'tidewaterlaw35.OrderChecks'. -/
def orderChecksCard : Claim7 := { stood := { row := orderChecksRow, standIns := [], harness := (true, "2547ea64ef5b84f2cea631f14d46ebc3d7b903e9807ae1c7c45f3b3033b81d1d"), looks := true }, kinds := [], alts := [], laidByText := true, laidKinds := [.sentinel, .sentinel, .sentinel, .sentinel, .sentinel, .sentinel, .sentinel, .sentinel, .sentinel, .sentinel, .sentinel, .sentinel, .sentinel, .sentinel, .sentinel, .sentinel, .sentinel, .sentinel, .sentinel], laidTests := true, laidLooks := .later }
def OrderChecksCardSaid : Prop := Claim7.holds Tryd.pinned (.plain (OpenSpec.ofChange orderChecksSpec)) orderChecksCard

/-- THE TIED CARD OF 'tidewaterlaw35.OrderSeen'. -/
def orderSeenCard : Claim7 := { stood := { row := orderSeenRow, standIns := [], harness := (true, "2547ea64ef5b84f2cea631f14d46ebc3d7b903e9807ae1c7c45f3b3033b81d1d"), looks := true }, kinds := [], alts := [], laidByText := true, laidKinds := [.sentinel, .sentinel, .sentinel, .sentinel, .sentinel, .sentinel, .sentinel, .sentinel, .sentinel, .sentinel, .sentinel, .sentinel, .sentinel, .sentinel, .sentinel, .sentinel, .sentinel, .sentinel, .sentinel], laidTests := true, laidLooks := .later }
def OrderSeenCardSaid : Prop := Claim7.holds Tryd.pinned (.plain (OpenSpec.ofChange orderSeenSpec)) orderSeenCard

/-- THE SECOND FORM's CARD OF 'tidewaterlaw35.OrderFinds'. -/
def orderFindsUptoCard : Claim7 := { stood := { row := orderFindsUptoRow, standIns := [], harness := (true, "2547ea64ef5b84f2cea631f14d46ebc3d7b903e9807ae1c7c45f3b3033b81d1d"), looks := true }, kinds := [], alts := [], laidByText := true, laidKinds := [.sentinel, .sentinel, .sentinel, .sentinel, .sentinel, .sentinel, .sentinel, .sentinel, .sentinel, .sentinel, .sentinel, .sentinel, .sentinel, .sentinel, .sentinel, .sentinel, .sentinel, .sentinel, .sentinel], laidTests := true, laidLooks := .later }
def OrderFindsUptoCardSaid : Prop := Claim7.holds Tryd.pinned (.plain (OpenSpec.upto orderFindsSpec)) orderFindsUptoCard

/-- THE SECOND FORM's CARD OF 'tidewaterlaw35.OrderLimits'. -/
def orderLimitsUptoCard : Claim7 := { stood := { row := orderLimitsUptoRow, standIns := [], harness := (true, "2547ea64ef5b84f2cea631f14d46ebc3d7b903e9807ae1c7c45f3b3033b81d1d"), looks := true }, kinds := [], alts := [], laidByText := true, laidKinds := [.sentinel, .sentinel, .sentinel, .sentinel, .sentinel, .sentinel, .sentinel, .sentinel, .sentinel, .sentinel, .sentinel, .sentinel, .sentinel, .sentinel, .sentinel, .sentinel, .sentinel, .sentinel, .sentinel], laidTests := true, laidLooks := .later }
def OrderLimitsUptoCardSaid : Prop := Claim7.holds Tryd.pinned (.plain (OpenSpec.upto orderLimitsSpec)) orderLimitsUptoCard

/-- THE SECOND FORM's CARD OF 'tidewaterlaw35.OrderChecks'. -/
def orderChecksUptoCard : Claim7 := { stood := { row := orderChecksUptoRow, standIns := [], harness := (true, "2547ea64ef5b84f2cea631f14d46ebc3d7b903e9807ae1c7c45f3b3033b81d1d"), looks := true }, kinds := [], alts := [], laidByText := true, laidKinds := [.sentinel, .sentinel, .sentinel, .sentinel, .sentinel, .sentinel, .sentinel, .sentinel, .sentinel, .sentinel, .sentinel, .sentinel, .sentinel, .sentinel, .sentinel, .sentinel, .sentinel, .sentinel, .sentinel], laidTests := true, laidLooks := .later }
def OrderChecksUptoCardSaid : Prop := Claim7.holds Tryd.pinned (.plain (OpenSpec.upto orderChecksSpec)) orderChecksUptoCard

/-- THE SECOND FORM's CARD OF 'tidewaterlaw35.OrderSeen'. -/
def orderSeenUptoCard : Claim7 := { stood := { row := orderSeenUptoRow, standIns := [], harness := (true, "2547ea64ef5b84f2cea631f14d46ebc3d7b903e9807ae1c7c45f3b3033b81d1d"), looks := true }, kinds := [], alts := [], laidByText := true, laidKinds := [.sentinel, .sentinel, .sentinel, .sentinel, .sentinel, .sentinel, .sentinel, .sentinel, .sentinel, .sentinel, .sentinel, .sentinel, .sentinel, .sentinel, .sentinel, .sentinel, .sentinel, .sentinel, .sentinel], laidTests := true, laidLooks := .later }
def OrderSeenUptoCardSaid : Prop := Claim7.holds Tryd.pinned (.plain (OpenSpec.upto orderSeenSpec)) orderSeenUptoCard
end Rows
end Go.Proofs.YtmfdpgjnmdlajaaDoor
