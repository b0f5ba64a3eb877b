/-
  WHAT IS PROVED: verification conditions of functions of this program, each with its soundness. No further conditions.
-/
import Derived.Test.YtnbddjghhmbmcaaGreatDoorBase
set_option linter.unusedSimpArgs false
set_option maxRecDepth 100000
set_option linter.unusedVariables false
namespace Go.D
open Go Go.Proofs
def iJ (places1 : Int) (w : World) (K : Value -> World -> Prop) : Prop :=
  aP w (.cells ⟨[(.int .i64 places1), (Slc.v ⟨none, 0, 0⟩)]⟩ 142) fun r2 w3 =>
  aP w3 (.cells ⟨[(.pointer (some ⟨r2, 0, none⟩)), (Slc.v ⟨none, 0, 0⟩), (Slc.v ⟨none, 0, 0⟩), (Slc.v ⟨none, 0, 0⟩), (.int .i64 (0 : Int)), (.int .i64 (0 : Int)), (.int .i64 (0 : Int))]⟩ 128) fun r4 w5 =>
  K (.pointer (some ⟨r4, 0, none⟩)) w5
theorem lx (places1 : Int) {w : World} {R : Ending -> World -> Prop} (h : iJ places1 w fun v w' => R (.returned v) w') : Calls Tryz.prog eo ⟨[(.int .i64 places1)]⟩ w R :=
  ab (ann := .none) ag mixed Tryz.func46 (Eq.mp (by kernel_rfl) h)
end Go.D

