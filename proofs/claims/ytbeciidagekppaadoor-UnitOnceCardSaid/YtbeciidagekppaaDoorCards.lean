/-
  DERIVED. GIVEN WITH THE SEED: THE CARDS: each row of YtbeciidagekppaaDoorRows.lean that lists a variable, with what it lists TIED to the program's text (the seventh form; the later family's looks); each row that meets fmt, with fmt's text TOLD by the authors' own Lean function (tested against real Go, not proved from fmt's source: count such statements apart). THE CARD IS WHAT COUNTS. Prove the row's statement (the work); the ties are given (YtbeciidagekppaaDoorTie.lean); close each card by the builder's one call (the guide's Derived/Test/ToyasCard.lean, 'card_holds'). Laid BY PROGRAM, IN A SANDBOX (cutbox-door.mjs). By AI agents, Wed Nov 11 2026. No macro, syntax, notation, axiom, sorry.
-/
import Derived.Test.YtbeciidagekppaaDoorRows
import GoSem.ClaimSeven
namespace Go.Proofs.YtbeciidagekppaaDoor
namespace Rows

/-- THE TIED CARD OF 'tidewaterlaw09.UnitOnce'. -/
def unitOnceCard : Claim7 := { stood := { row := unitOnceRow, standIns := [], harness := (true, "cb1962091bc44388c9ee16f9ad5edb5383b50abfbfd7e3b42c23538ebbf41130"), looks := true }, kinds := [], alts := [], laidByText := true, laidKinds := [.sentinel, .sentinel, .sentinel, .sentinel, .sentinel, .sentinel, .sentinel, .sentinel, .sentinel, .sentinel, .sentinel, .sentinel, .sentinel, .sentinel, .sentinel, .sentinel, .sentinel, .sentinel, .sentinel], laidTests := true, laidLooks := .later }
def UnitOnceCardSaid : Prop := Claim7.holds Tryd.pinned (.plain (OpenSpec.ofChange unitOnceSpec)) unitOnceCard

/-- THE SECOND FORM's CARD OF 'tidewaterlaw09.UnitOnce'. -/
def unitOnceUptoCard : Claim7 := { stood := { row := unitOnceUptoRow, standIns := [], harness := (true, "cb1962091bc44388c9ee16f9ad5edb5383b50abfbfd7e3b42c23538ebbf41130"), looks := true }, kinds := [], alts := [], laidByText := true, laidKinds := [.sentinel, .sentinel, .sentinel, .sentinel, .sentinel, .sentinel, .sentinel, .sentinel, .sentinel, .sentinel, .sentinel, .sentinel, .sentinel, .sentinel, .sentinel, .sentinel, .sentinel, .sentinel, .sentinel], laidTests := true, laidLooks := .later }
def UnitOnceUptoCardSaid : Prop := Claim7.holds Tryd.pinned (.plain (OpenSpec.upto unitOnceSpec)) unitOnceUptoCard
end Rows
end Go.Proofs.YtbeciidagekppaaDoor
