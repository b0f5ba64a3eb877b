/-
  WHAT IS PROVED: verification conditions of functions of this program, each with its soundness. No further conditions.
-/
import Derived.Test.YtppbbkmjjpggkaaGreatDoorBase
set_option linter.unusedSimpArgs false
set_option maxRecDepth 100000
set_option linter.unusedVariables false
namespace Go.D
open Go Go.Proofs
def kg (places1 : Int) (w : World) (K : Value -> World -> Prop) : Prop :=
  aH w (.cells ⟨[(.int .i64 places1), (Slc.v ⟨none, 0, 0⟩)]⟩ 162) fun r2 w3 =>
  aH w3 (.cells ⟨[(.pointer (some ⟨r2, 0, none⟩)), (Slc.v ⟨none, 0, 0⟩), (Slc.v ⟨none, 0, 0⟩), (Slc.v ⟨none, 0, 0⟩), (.int .i64 (0 : Int)), (.int .i64 (0 : Int)), (.int .i64 (0 : Int))]⟩ 122) fun r4 w5 =>
  K (.pointer (some ⟨r4, 0, none⟩)) w5
theorem oc (places1 : Int) {w : World} {R : Ending -> World -> Prop} (h : kg places1 w fun v w' => R (.returned v) w') : Calls Tryz.prog fk ⟨[(.int .i64 places1)]⟩ w R :=
  ab (ann := .none) ah mixed Tryz.func35 (Eq.mp (by kernel_rfl) h)
end Go.D

