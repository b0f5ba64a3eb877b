/-
  WHAT IS PROVED: verification conditions of functions of this program, each with its soundness. No further conditions.
-/
import Derived.Test.YtppbbkmjjpggkaaGreatDoorBase
set_option linter.unusedSimpArgs false
set_option maxRecDepth 100000
set_option linter.unusedVariables false
namespace Go.D
open Go Go.Proofs
def j7 (n1 : Int) (w : World) (K : Value -> World -> Prop) : Prop :=
  BIf (decide (n1 < (128 : Int))) (
  aH w (.cells ⟨[(.int .u8 (IntKind.wrap .u8 n1))]⟩ 5) fun r2 w3 =>
  K (Slc.v (⟨(some ⟨r2, 0, none⟩), 1, 1⟩ : Slc)) w3) (
  0 <= n1 /\ 0 < (128 : Int) /\
  inR .i64 ((n1 % (128 : Int)) + (128 : Int)) /\
  aH w (.cells ⟨[(.int .u8 (IntKind.wrap .u8 ((n1 % (128 : Int)) + (128 : Int))))]⟩ 5) fun r4 w5 =>
  0 <= n1 /\ 0 < (128 : Int) /\ inR .i64 n1 /\
  Calls Tryz.prog bH ⟨[(.int .i64 (n1 / (128 : Int)))]⟩ w5 fun e6 w7 =>
  ∃ s8, e6 = .returned (Slc.v s8) /\
  aK 1 5 [(.int .u8 (0 : Int))] w7 (⟨(some ⟨r4, 0, none⟩), 1, 1⟩ : Slc) (.slc s8) fun s9 w10 =>
  K (Slc.v s9) w10)
theorem nV (n1 : Int) {w : World} {R : Ending -> World -> Prop} (h : j7 n1 w fun v w' => R (.returned v) w') : Calls Tryz.prog bH ⟨[(.int .i64 n1)]⟩ w R :=
  ab (ann := .none) ah mixed Tryz.func92 (Eq.mp (by kernel_rfl) h)
def jF (s1 : List UInt8) (w : World) (K : Value -> World -> Prop) : Prop :=
  Calls Tryz.prog bH ⟨[(.int .i64 (((List.length s1) : Nat) : Int))]⟩ w fun e2 w3 =>
  ∃ s4, e2 = .returned (Slc.v s4) /\
  aK 1 5 [(.int .u8 (0 : Int))] w3 s4 (.str s1) fun s5 w6 =>
  K (Slc.v s5) w6
theorem mJ (s1 : List UInt8) {w : World} {R : Ending -> World -> Prop} (h : jF s1 w fun v w' => R (.returned v) w') : Calls Tryz.prog eU ⟨[(fG s1)]⟩ w R :=
  ab (ann := .none) ah mixed Tryz.func93 (Eq.mp (by kernel_rfl) h)
end Go.D

