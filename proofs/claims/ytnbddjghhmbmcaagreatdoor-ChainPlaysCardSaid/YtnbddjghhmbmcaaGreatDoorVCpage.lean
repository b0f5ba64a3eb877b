/-
  WHAT IS PROVED: verification conditions of functions of this program, each with its soundness. No further conditions.
-/
import Derived.Test.YtnbddjghhmbmcaaGreatDoorBase
set_option linter.unusedSimpArgs false
set_option maxRecDepth 100000
set_option linter.unusedVariables false
namespace Go.D
open Go Go.Proofs
def zX  (w : World) (K : Value -> World -> Prop) : Prop :=
  aA w (.cells ⟨[(.int .u8 0)]⟩ 5) fun r1 w2 =>
  ∀ w4, w4 = markW w2 r1 ->
  K (Slc.v (⟨(some ⟨r1, 0, none⟩), 1, 1⟩ : Slc)) w4
theorem AK  {w : World} {R : Ending -> World -> Prop} (h : zX  w fun v w' => R (.returned v) w') : Calls Tryz.prog oL ⟨[]⟩ w R :=
  ab (ann := .none) ag mixed Tryz.func47 (Eq.mp (by kernel_rfl) h)
def vt (b1 : Slc) (w : World) (K : Value -> World -> Prop) : Prop :=
  ∃ t2 : List UInt8, au w b1 t2 /\
  K (.bool (decide (t2 = ([0] : List UInt8)))) w
theorem xM (b1 : Slc) {w : World} {R : Ending -> World -> Prop} (h : vt b1 w fun v w' => R (.returned v) w') : Calls Tryz.prog qi ⟨[b1.v]⟩ w R :=
  ab (ann := .none) ag mixed Tryz.func17 (Eq.mp (by kernel_rfl) h)
end Go.D

