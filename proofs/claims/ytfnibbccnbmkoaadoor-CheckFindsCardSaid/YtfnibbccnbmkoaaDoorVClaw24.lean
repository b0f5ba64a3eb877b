/-
  WHAT IS PROVED: verification conditions of functions of this program, each with its soundness. No further conditions.
-/
import Derived.Test.YtfnibbccnbmkoaaDoorBase
set_option linter.unusedSimpArgs false
set_option maxRecDepth 100000
set_option linter.unusedVariables false
namespace Go.D
open Go Go.Proofs
def dX  (w : World) (K : Value -> World -> Prop) : Prop :=
  0 <= (252 : Int) /\ (252 : Int) <= (252 : Int) /\ (252 : Int) <= 2 ^ 30 /\
  aK w (.cells ⟨bt 252 [(.int .u8 0)]⟩ 5) fun r1 w2 =>
  Calls Tryd.prog dm ⟨[(.int .i64 1), (.int .i64 0), (Slc.v (⟨(some ⟨r1, 0, none⟩), 252, 252⟩ : Slc))]⟩ w2 fun e3 w4 =>
  ∃ s5 : Slc, ∃ e6, e3 = .returned (.tuple ⟨[s5.v, e6]⟩) /\
  0 <= (253 : Int) /\ (253 : Int) <= (253 : Int) /\ (253 : Int) <= 2 ^ 30 /\
  aK w4 (.cells ⟨bt 253 [(.int .u8 0)]⟩ 5) fun r7 w8 =>
  Calls Tryd.prog dm ⟨[(.int .i64 1), (.int .i64 0), (Slc.v (⟨(some ⟨r7, 0, none⟩), 253, 253⟩ : Slc))]⟩ w8 fun e9 w10 =>
  ∃ s11 : Slc, ∃ e12, e9 = .returned (.tuple ⟨[s11.v, e12]⟩) /\
  isI e6 /\
  BIf (isNilI e6) (
  isI e12 /\
  BIf (isNilI e12) (
  BIf (decide ((s5.l : Int) = (1 : Int))) (
  BIf (decide ((s11.l : Int) = (2 : Int))) (
  needSome s11.p fun a13 =>
  0 <= (1 : Int) /\ (1 : Int) < (s11.l : Int) /\
  ∃ s14, w10.cell? ((a13.add 12).add 11) = some (Slc.v s14) /\
  K (.bool (decide ((s14.l : Int) = (1 : Int)))) w10) (
  K (.bool false) w10)) (
  K (.bool false) w10)) (
  K (.bool false) w10)) (
  K (.bool false) w10)
theorem ft  {w : World} {R : Ending -> World -> Prop} (h : dX  w fun v w' => R (.returned v) w') : Calls Tryd.prog cf ⟨[]⟩ w R :=
  ae (ann := .none) aj mixed Tryd.func5 (Eq.mp (by kernel_rfl) h)
end Go.D

