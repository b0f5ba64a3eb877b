/-
  DERIVED. GIVEN WITH THE SEED: THE CARDS: each row of YtojcoegekkcojaaDoorRows.lean that lists a variable, with what it lists TIED to the program's text (the seventh form; the later family's looks); each row that meets fmt, with fmt's text TOLD by the authors' own Lean function (tested against real Go, not proved from fmt's source: count such statements apart). THE CARD IS WHAT COUNTS. Prove the row's statement (the work); the ties are given (YtojcoegekkcojaaDoorTie.lean); close each card by the builder's one call (the guide's Derived/Test/ToyasCard.lean, 'card_holds'). Laid BY PROGRAM, IN A SANDBOX (cutbox-door.mjs). By AI agents, Wed Nov 11 2026. No macro, syntax, notation, axiom, sorry.
-/
import Derived.Test.YtojcoegekkcojaaDoorRows
import GoSem.ClaimSeven
namespace Go.Proofs.YtojcoegekkcojaaDoor
namespace Rows

/-- THE TIED CARD OF 'tidewaterlaw05.EntrySame'. -/
def entrySameCard : Claim7 := { stood := { row := entrySameRow, standIns := [], harness := (true, "ea526b415aff6d97b56838697ed2be5f89f0b4776c52432ceafffbbd8475a4c0"), looks := true }, kinds := [], alts := [], laidByText := true, laidKinds := [.sentinel, .sentinel], laidTests := true, laidLooks := .later }
def EntrySameCardSaid : Prop := Claim7.holds Tryd.pinned (.plain (OpenSpec.ofChange entrySameSpec)) entrySameCard

/-- THE TIED CARD OF 'tidewaterlaw05.EntryStreams'. -/
def entryStreamsCard : Claim7 := { stood := { row := entryStreamsRow, standIns := [], harness := (true, "ea526b415aff6d97b56838697ed2be5f89f0b4776c52432ceafffbbd8475a4c0"), looks := true }, kinds := [], alts := [], laidByText := true, laidKinds := [.sentinel, .sentinel], laidTests := true, laidLooks := .later }
def EntryStreamsCardSaid : Prop := Claim7.holds Tryd.pinned (.plain (OpenSpec.ofChange entryStreamsSpec)) entryStreamsCard

/-- THE TIED CARD OF 'tidewaterlaw05.EntryWrites'. -/
def entryWritesCard : Claim7 := { stood := { row := entryWritesRow, standIns := [], harness := (true, "ea526b415aff6d97b56838697ed2be5f89f0b4776c52432ceafffbbd8475a4c0"), looks := true }, kinds := [], alts := [], laidByText := true, laidKinds := [.sentinel, .sentinel, .sentinel, .sentinel, .sentinel, .sentinel, .sentinel, .sentinel, .sentinel, .sentinel, .sentinel, .sentinel, .sentinel, .sentinel, .sentinel, .sentinel, .sentinel, .sentinel, .sentinel], laidTests := true, laidLooks := .later }
def EntryWritesCardSaid : Prop := Claim7.holds Tryd.pinned (.plain (OpenSpec.ofChange entryWritesSpec)) entryWritesCard

/-- THE SECOND FORM's CARD OF 'tidewaterlaw05.EntrySame'. -/
def entrySameUptoCard : Claim7 := { stood := { row := entrySameUptoRow, standIns := [], harness := (true, "ea526b415aff6d97b56838697ed2be5f89f0b4776c52432ceafffbbd8475a4c0"), looks := true }, kinds := [], alts := [], laidByText := true, laidKinds := [.sentinel, .sentinel], laidTests := true, laidLooks := .later }
def EntrySameUptoCardSaid : Prop := Claim7.holds Tryd.pinned (.plain (OpenSpec.upto entrySameSpec)) entrySameUptoCard

/-- THE SECOND FORM's CARD OF 'tidewaterlaw05.EntryStreams'. -/
def entryStreamsUptoCard : Claim7 := { stood := { row := entryStreamsUptoRow, standIns := [], harness := (true, "ea526b415aff6d97b56838697ed2be5f89f0b4776c52432ceafffbbd8475a4c0"), looks := true }, kinds := [], alts := [], laidByText := true, laidKinds := [.sentinel, .sentinel], laidTests := true, laidLooks := .later }
def EntryStreamsUptoCardSaid : Prop := Claim7.holds Tryd.pinned (.plain (OpenSpec.upto entryStreamsSpec)) entryStreamsUptoCard

/-- THE SECOND FORM's CARD OF 'tidewaterlaw05.EntryWrites'. -/
def entryWritesUptoCard : Claim7 := { stood := { row := entryWritesUptoRow, standIns := [], harness := (true, "ea526b415aff6d97b56838697ed2be5f89f0b4776c52432ceafffbbd8475a4c0"), looks := true }, kinds := [], alts := [], laidByText := true, laidKinds := [.sentinel, .sentinel, .sentinel, .sentinel, .sentinel, .sentinel, .sentinel, .sentinel, .sentinel, .sentinel, .sentinel, .sentinel, .sentinel, .sentinel, .sentinel, .sentinel, .sentinel, .sentinel, .sentinel], laidTests := true, laidLooks := .later }
def EntryWritesUptoCardSaid : Prop := Claim7.holds Tryd.pinned (.plain (OpenSpec.upto entryWritesSpec)) entryWritesUptoCard
end Rows
end Go.Proofs.YtojcoegekkcojaaDoor
