/-
  DERIVED. GIVEN WITH THE SEED: THE CARDS: each row of YtkcobfichmjbdaaDoorRows.lean that lists a variable, with what it lists TIED to the program's text (the seventh form; the later family's looks); each row that meets fmt, with fmt's text TOLD by the authors' own Lean function (tested against real Go, not proved from fmt's source: count such statements apart). THE CARD IS WHAT COUNTS. Prove the row's statement (the work); the ties are given (YtkcobfichmjbdaaDoorTie.lean); close each card by the builder's one call (the guide's Derived/Test/ToyasCard.lean, 'card_holds'). Laid BY PROGRAM, IN A SANDBOX (cutbox-door.mjs). By AI agents, Wed Nov 11 2026. No macro, syntax, notation, axiom, sorry.
-/
import Derived.Test.YtkcobfichmjbdaaDoorRows
import GoSem.ClaimSeven
namespace Go.Proofs.YtkcobfichmjbdaaDoor
namespace Rows

/-- THE TIED CARD OF 'tidewaterlaw11.VoteOne'. -/
def voteOneCard : Claim7 := { stood := { row := voteOneRow, standIns := [], harness := (true, "f59adbd603c540eff01e2b6d6ed0bd3a8e0d6fe8287b2050b4f843103848aa73"), looks := true }, kinds := [], alts := [], laidByText := true, laidKinds := [.sentinel, .sentinel], laidTests := true, laidLooks := .later }
def VoteOneCardSaid : Prop := Claim7.holds Tryd.pinned (.plain (OpenSpec.ofChange voteOneSpec)) voteOneCard

/-- THE TIED CARD OF 'tidewaterlaw11.VoteProposes'. -/
def voteProposesCard : Claim7 := { stood := { row := voteProposesRow, standIns := [], harness := (true, "f59adbd603c540eff01e2b6d6ed0bd3a8e0d6fe8287b2050b4f843103848aa73"), looks := true }, kinds := [], alts := [], laidByText := true, laidKinds := [.sentinel, .sentinel, .sentinel, .sentinel, .sentinel, .sentinel, .sentinel, .sentinel, .sentinel, .sentinel, .sentinel, .sentinel, .sentinel, .sentinel, .sentinel, .sentinel, .sentinel, .sentinel, .sentinel], laidTests := true, laidLooks := .later }
def VoteProposesCardSaid : Prop := Claim7.holds Tryd.pinned (.plain (OpenSpec.ofChange voteProposesSpec)) voteProposesCard

/-- THE TIED CARD OF 'tidewaterlaw07.DiskFlushes'. -/
def diskFlushesCard : Claim7 := { stood := { row := diskFlushesRow, standIns := [], harness := (true, "f59adbd603c540eff01e2b6d6ed0bd3a8e0d6fe8287b2050b4f843103848aa73"), looks := true }, kinds := [], alts := [], laidByText := true, laidKinds := [.sentinel, .sentinel, .sentinel], laidTests := true, laidLooks := .later }
def DiskFlushesCardSaid : Prop := Claim7.holds Tryd.pinned (.plain (OpenSpec.ofChange diskFlushesSpec)) diskFlushesCard

/-- THE TIED CARD OF 'tidewaterlaw07.DiskFrom'. -/
def diskFromCard : Claim7 := { stood := { row := diskFromRow, standIns := [], harness := (true, "f59adbd603c540eff01e2b6d6ed0bd3a8e0d6fe8287b2050b4f843103848aa73"), looks := true }, kinds := [], alts := [], laidByText := true, laidKinds := [.sentinel, .sentinel, .sentinel, .sentinel, .sentinel, .sentinel, .sentinel, .sentinel, .sentinel, .sentinel, .sentinel, .sentinel, .sentinel, .sentinel, .sentinel, .sentinel, .sentinel, .sentinel, .sentinel], laidTests := true, laidLooks := .later }
def DiskFromCardSaid : Prop := Claim7.holds Tryd.pinned (.plain (OpenSpec.ofChange diskFromSpec)) diskFromCard

/-- THE TIED CARD OF 'tidewaterlaw13.TokenApart'. -/
def tokenApartCard : Claim7 := { stood := { row := tokenApartRow, standIns := [], harness := (true, "f59adbd603c540eff01e2b6d6ed0bd3a8e0d6fe8287b2050b4f843103848aa73"), looks := true }, kinds := [], alts := [], laidByText := true, laidKinds := [.sentinel, .sentinel, .sentinel, .sentinel, .sentinel], laidTests := true, laidLooks := .later }
def TokenApartCardSaid : Prop := Claim7.holds Tryd.pinned (.plain (OpenSpec.ofChange tokenApartSpec)) tokenApartCard

/-- THE TIED CARD OF 'tidewaterlaw13.TokenOnce'. -/
def tokenOnceCard : Claim7 := { stood := { row := tokenOnceRow, standIns := [], harness := (true, "f59adbd603c540eff01e2b6d6ed0bd3a8e0d6fe8287b2050b4f843103848aa73"), looks := true }, kinds := [], alts := [], laidByText := true, laidKinds := [.sentinel, .sentinel, .sentinel, .sentinel, .sentinel, .sentinel, .sentinel, .sentinel, .sentinel, .sentinel, .sentinel, .sentinel, .sentinel, .sentinel, .sentinel, .sentinel, .sentinel, .sentinel, .sentinel], laidTests := true, laidLooks := .later }
def TokenOnceCardSaid : Prop := Claim7.holds Tryd.pinned (.plain (OpenSpec.ofChange tokenOnceSpec)) tokenOnceCard

/-- THE TIED CARD OF 'tidewaterlaw13.TokenPlays'. -/
def tokenPlaysCard : Claim7 := { stood := { row := tokenPlaysRow, standIns := [], harness := (true, "f59adbd603c540eff01e2b6d6ed0bd3a8e0d6fe8287b2050b4f843103848aa73"), looks := true }, kinds := [], alts := [], laidByText := true, laidKinds := [.sentinel, .sentinel, .sentinel, .sentinel, .sentinel, .sentinel, .sentinel, .sentinel, .sentinel, .sentinel, .sentinel, .sentinel, .sentinel, .sentinel, .sentinel, .sentinel, .sentinel, .sentinel, .sentinel], laidTests := true, laidLooks := .later }
def TokenPlaysCardSaid : Prop := Claim7.holds Tryd.pinned (.plain (OpenSpec.ofChange tokenPlaysSpec)) tokenPlaysCard

/-- THE TIED CARD OF 'tidewaterlaw35.OrderFinds'. -/
def orderFindsCard : Claim7 := { stood := { row := orderFindsRow, standIns := [], harness := (true, "f59adbd603c540eff01e2b6d6ed0bd3a8e0d6fe8287b2050b4f843103848aa73"), looks := true }, kinds := [], alts := [], laidByText := true, laidKinds := [.sentinel, .sentinel, .sentinel, .sentinel, .sentinel, .sentinel, .sentinel, .sentinel, .sentinel, .sentinel, .sentinel, .sentinel, .sentinel, .sentinel, .sentinel, .sentinel, .sentinel, .sentinel, .sentinel], laidTests := true, laidLooks := .later }
def OrderFindsCardSaid : Prop := Claim7.holds Tryd.pinned (.plain (OpenSpec.ofChange orderFindsSpec)) orderFindsCard

/-- THE TIED CARD OF 'tidewaterlaw35.OrderLimits'. -/
def orderLimitsCard : Claim7 := { stood := { row := orderLimitsRow, standIns := [], harness := (true, "f59adbd603c540eff01e2b6d6ed0bd3a8e0d6fe8287b2050b4f843103848aa73"), looks := true }, kinds := [], alts := [], laidByText := true, laidKinds := [.sentinel, .sentinel, .sentinel, .sentinel, .sentinel, .sentinel, .sentinel, .sentinel, .sentinel, .sentinel, .sentinel, .sentinel, .sentinel, .sentinel, .sentinel, .sentinel, .sentinel, .sentinel, .sentinel], laidTests := true, laidLooks := .later }
def OrderLimitsCardSaid : Prop := Claim7.holds Tryd.pinned (.plain (OpenSpec.ofChange orderLimitsSpec)) orderLimitsCard

/-- THE TIED CARD OF 'tidewaterlaw35.OrderChecks'. -/
def orderChecksCard : Claim7 := { stood := { row := orderChecksRow, standIns := [], harness := (true, "f59adbd603c540eff01e2b6d6ed0bd3a8e0d6fe8287b2050b4f843103848aa73"), looks := true }, kinds := [], alts := [], laidByText := true, laidKinds := [.sentinel, .sentinel, .sentinel, .sentinel, .sentinel, .sentinel, .sentinel, .sentinel, .sentinel, .sentinel, .sentinel, .sentinel, .sentinel, .sentinel, .sentinel, .sentinel, .sentinel, .sentinel, .sentinel], laidTests := true, laidLooks := .later }
def OrderChecksCardSaid : Prop := Claim7.holds Tryd.pinned (.plain (OpenSpec.ofChange orderChecksSpec)) orderChecksCard

/-- THE TIED CARD OF 'tidewaterlaw35.OrderSeen'. -/
def orderSeenCard : Claim7 := { stood := { row := orderSeenRow, standIns := [], harness := (true, "f59adbd603c540eff01e2b6d6ed0bd3a8e0d6fe8287b2050b4f843103848aa73"), looks := true }, kinds := [], alts := [], laidByText := true, laidKinds := [.sentinel, .sentinel, .sentinel, .sentinel, .sentinel, .sentinel, .sentinel, .sentinel, .sentinel, .sentinel, .sentinel, .sentinel, .sentinel, .sentinel, .sentinel, .sentinel, .sentinel, .sentinel, .sentinel], laidTests := true, laidLooks := .later }
def OrderSeenCardSaid : Prop := Claim7.holds Tryd.pinned (.plain (OpenSpec.ofChange orderSeenSpec)) orderSeenCard

/-- THE SECOND FORM's CARD OF 'tidewaterlaw11.VoteOne'. -/
def voteOneUptoCard : Claim7 := { stood := { row := voteOneUptoRow, standIns := [], harness := (true, "f59adbd603c540eff01e2b6d6ed0bd3a8e0d6fe8287b2050b4f843103848aa73"), looks := true }, kinds := [], alts := [], laidByText := true, laidKinds := [.sentinel, .sentinel], laidTests := true, laidLooks := .later }
def VoteOneUptoCardSaid : Prop := Claim7.holds Tryd.pinned (.plain (OpenSpec.upto voteOneSpec)) voteOneUptoCard

/-- THE SECOND FORM's CARD OF 'tidewaterlaw11.VoteProposes'. -/
def voteProposesUptoCard : Claim7 := { stood := { row := voteProposesUptoRow, standIns := [], harness := (true, "f59adbd603c540eff01e2b6d6ed0bd3a8e0d6fe8287b2050b4f843103848aa73"), looks := true }, kinds := [], alts := [], laidByText := true, laidKinds := [.sentinel, .sentinel, .sentinel, .sentinel, .sentinel, .sentinel, .sentinel, .sentinel, .sentinel, .sentinel, .sentinel, .sentinel, .sentinel, .sentinel, .sentinel, .sentinel, .sentinel, .sentinel, .sentinel], laidTests := true, laidLooks := .later }
def VoteProposesUptoCardSaid : Prop := Claim7.holds Tryd.pinned (.plain (OpenSpec.upto voteProposesSpec)) voteProposesUptoCard

/-- THE SECOND FORM's CARD OF 'tidewaterlaw07.DiskFlushes'. -/
def diskFlushesUptoCard : Claim7 := { stood := { row := diskFlushesUptoRow, standIns := [], harness := (true, "f59adbd603c540eff01e2b6d6ed0bd3a8e0d6fe8287b2050b4f843103848aa73"), looks := true }, kinds := [], alts := [], laidByText := true, laidKinds := [.sentinel, .sentinel, .sentinel], laidTests := true, laidLooks := .later }
def DiskFlushesUptoCardSaid : Prop := Claim7.holds Tryd.pinned (.plain (OpenSpec.upto diskFlushesSpec)) diskFlushesUptoCard

/-- THE SECOND FORM's CARD OF 'tidewaterlaw07.DiskFrom'. -/
def diskFromUptoCard : Claim7 := { stood := { row := diskFromUptoRow, standIns := [], harness := (true, "f59adbd603c540eff01e2b6d6ed0bd3a8e0d6fe8287b2050b4f843103848aa73"), looks := true }, kinds := [], alts := [], laidByText := true, laidKinds := [.sentinel, .sentinel, .sentinel, .sentinel, .sentinel, .sentinel, .sentinel, .sentinel, .sentinel, .sentinel, .sentinel, .sentinel, .sentinel, .sentinel, .sentinel, .sentinel, .sentinel, .sentinel, .sentinel], laidTests := true, laidLooks := .later }
def DiskFromUptoCardSaid : Prop := Claim7.holds Tryd.pinned (.plain (OpenSpec.upto diskFromSpec)) diskFromUptoCard

/-- THE SECOND FORM's CARD OF 'tidewaterlaw13.TokenApart'. -/
def tokenApartUptoCard : Claim7 := { stood := { row := tokenApartUptoRow, standIns := [], harness := (true, "f59adbd603c540eff01e2b6d6ed0bd3a8e0d6fe8287b2050b4f843103848aa73"), looks := true }, kinds := [], alts := [], laidByText := true, laidKinds := [.sentinel, .sentinel, .sentinel, .sentinel, .sentinel], laidTests := true, laidLooks := .later }
def TokenApartUptoCardSaid : Prop := Claim7.holds Tryd.pinned (.plain (OpenSpec.upto tokenApartSpec)) tokenApartUptoCard

/-- THE SECOND FORM's CARD OF 'tidewaterlaw13.TokenOnce'. -/
def tokenOnceUptoCard : Claim7 := { stood := { row := tokenOnceUptoRow, standIns := [], harness := (true, "f59adbd603c540eff01e2b6d6ed0bd3a8e0d6fe8287b2050b4f843103848aa73"), looks := true }, kinds := [], alts := [], laidByText := true, laidKinds := [.sentinel, .sentinel, .sentinel, .sentinel, .sentinel, .sentinel, .sentinel, .sentinel, .sentinel, .sentinel, .sentinel, .sentinel, .sentinel, .sentinel, .sentinel, .sentinel, .sentinel, .sentinel, .sentinel], laidTests := true, laidLooks := .later }
def TokenOnceUptoCardSaid : Prop := Claim7.holds Tryd.pinned (.plain (OpenSpec.upto tokenOnceSpec)) tokenOnceUptoCard

/-- THE SECOND FORM's CARD OF 'tidewaterlaw13.TokenPlays'. -/
def tokenPlaysUptoCard : Claim7 := { stood := { row := tokenPlaysUptoRow, standIns := [], harness := (true, "f59adbd603c540eff01e2b6d6ed0bd3a8e0d6fe8287b2050b4f843103848aa73"), looks := true }, kinds := [], alts := [], laidByText := true, laidKinds := [.sentinel, .sentinel, .sentinel, .sentinel, .sentinel, .sentinel, .sentinel, .sentinel, .sentinel, .sentinel, .sentinel, .sentinel, .sentinel, .sentinel, .sentinel, .sentinel, .sentinel, .sentinel, .sentinel], laidTests := true, laidLooks := .later }
def TokenPlaysUptoCardSaid : Prop := Claim7.holds Tryd.pinned (.plain (OpenSpec.upto tokenPlaysSpec)) tokenPlaysUptoCard

/-- THE SECOND FORM's CARD OF 'tidewaterlaw35.OrderFinds'. -/
def orderFindsUptoCard : Claim7 := { stood := { row := orderFindsUptoRow, standIns := [], harness := (true, "f59adbd603c540eff01e2b6d6ed0bd3a8e0d6fe8287b2050b4f843103848aa73"), looks := true }, kinds := [], alts := [], laidByText := true, laidKinds := [.sentinel, .sentinel, .sentinel, .sentinel, .sentinel, .sentinel, .sentinel, .sentinel, .sentinel, .sentinel, .sentinel, .sentinel, .sentinel, .sentinel, .sentinel, .sentinel, .sentinel, .sentinel, .sentinel], laidTests := true, laidLooks := .later }
def OrderFindsUptoCardSaid : Prop := Claim7.holds Tryd.pinned (.plain (OpenSpec.upto orderFindsSpec)) orderFindsUptoCard

/-- THE SECOND FORM's CARD OF 'tidewaterlaw35.OrderLimits'. -/
def orderLimitsUptoCard : Claim7 := { stood := { row := orderLimitsUptoRow, standIns := [], harness := (true, "f59adbd603c540eff01e2b6d6ed0bd3a8e0d6fe8287b2050b4f843103848aa73"), looks := true }, kinds := [], alts := [], laidByText := true, laidKinds := [.sentinel, .sentinel, .sentinel, .sentinel, .sentinel, .sentinel, .sentinel, .sentinel, .sentinel, .sentinel, .sentinel, .sentinel, .sentinel, .sentinel, .sentinel, .sentinel, .sentinel, .sentinel, .sentinel], laidTests := true, laidLooks := .later }
def OrderLimitsUptoCardSaid : Prop := Claim7.holds Tryd.pinned (.plain (OpenSpec.upto orderLimitsSpec)) orderLimitsUptoCard

/-- THE SECOND FORM's CARD OF 'tidewaterlaw35.OrderChecks'. -/
def orderChecksUptoCard : Claim7 := { stood := { row := orderChecksUptoRow, standIns := [], harness := (true, "f59adbd603c540eff01e2b6d6ed0bd3a8e0d6fe8287b2050b4f843103848aa73"), looks := true }, kinds := [], alts := [], laidByText := true, laidKinds := [.sentinel, .sentinel, .sentinel, .sentinel, .sentinel, .sentinel, .sentinel, .sentinel, .sentinel, .sentinel, .sentinel, .sentinel, .sentinel, .sentinel, .sentinel, .sentinel, .sentinel, .sentinel, .sentinel], laidTests := true, laidLooks := .later }
def OrderChecksUptoCardSaid : Prop := Claim7.holds Tryd.pinned (.plain (OpenSpec.upto orderChecksSpec)) orderChecksUptoCard

/-- THE SECOND FORM's CARD OF 'tidewaterlaw35.OrderSeen'. -/
def orderSeenUptoCard : Claim7 := { stood := { row := orderSeenUptoRow, standIns := [], harness := (true, "f59adbd603c540eff01e2b6d6ed0bd3a8e0d6fe8287b2050b4f843103848aa73"), looks := true }, kinds := [], alts := [], laidByText := true, laidKinds := [.sentinel, .sentinel, .sentinel, .sentinel, .sentinel, .sentinel, .sentinel, .sentinel, .sentinel, .sentinel, .sentinel, .sentinel, .sentinel, .sentinel, .sentinel, .sentinel, .sentinel, .sentinel, .sentinel], laidTests := true, laidLooks := .later }
def OrderSeenUptoCardSaid : Prop := Claim7.holds Tryd.pinned (.plain (OpenSpec.upto orderSeenSpec)) orderSeenUptoCard
end Rows
end Go.Proofs.YtkcobfichmjbdaaDoor
