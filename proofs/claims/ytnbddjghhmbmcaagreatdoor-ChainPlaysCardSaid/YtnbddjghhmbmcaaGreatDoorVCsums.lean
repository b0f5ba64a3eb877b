/-
  WHAT IS PROVED: verification conditions of functions of this program, each with its soundness. No further conditions.
-/
import Derived.Test.YtnbddjghhmbmcaaGreatDoorBase
set_option linter.unusedSimpArgs false
set_option maxRecDepth 100000
set_option linter.unusedVariables false
namespace Go.D
open Go Go.Proofs
def mz (s1 : Slc) (w : World) (K : Value -> World -> Prop) : Prop :=
  BIf (Option.isNone (s1.p : Option Addr)) (
  K (Slc.v ⟨none, 0, 0⟩) w) (
  aA w (.cells ⟨[]⟩ 5) fun r2 w3 =>
  ak 1 5 [(.int .u8 0)] w3 (⟨(some ⟨r2, 0, none⟩), 0, 0⟩ : Slc) (.slc s1) fun s4 w5 =>
  K (Slc.v s4) w5)
theorem qn (s1 : Slc) {w : World} {R : Ending -> World -> Prop} (h : mz s1 w fun v w' => R (.returned v) w') : Calls Tryz.prog aQ ⟨[s1.v]⟩ w R :=
  ab (ann := .none) ag mixed Tryz.func57 (Eq.mp (by kernel_rfl) h)
end Go.D

