/-
  WHAT IS PROVED: verification conditions of functions of this program, each with its soundness. No further conditions.
-/
import Derived.Test.YtnbddjghhmbmcaaGreatDoorBase
set_option linter.unusedSimpArgs false
set_option maxRecDepth 100000
set_option linter.unusedVariables false
namespace Go.D
open Go Go.Proofs
def lP (n1 : Int) (w : World) (K : Value -> World -> Prop) : Prop :=
  BIf (decide (n1 < 128)) (
  aA w (.cells ⟨[(.int .u8 (IntKind.wrap .u8 n1))]⟩ 5) fun r2 w3 =>
  K (Slc.v (⟨(some ⟨r2, 0, none⟩), 1, 1⟩ : Slc)) w3) (
  0 <= n1 /\ 0 < (128 : Int) /\
  inR .i64 ((n1 % 128) + (128 : Int)) /\
  aA w (.cells ⟨[(.int .u8 (IntKind.wrap .u8 ((n1 % 128) + (128 : Int))))]⟩ 5) fun r4 w5 =>
  0 <= n1 /\ 0 < (128 : Int) /\ inR .i64 n1 /\
  Calls Tryz.prog aL ⟨[(.int .i64 (n1 / 128))]⟩ w5 fun e6 w7 =>
  ∃ s8, e6 = .returned (Slc.v s8) /\
  ak 1 5 [(.int .u8 0)] w7 (⟨(some ⟨r4, 0, none⟩), 1, 1⟩ : Slc) (.slc s8) fun s9 w10 =>
  K (Slc.v s9) w10)
theorem pV (n1 : Int) {w : World} {R : Ending -> World -> Prop} (h : lP n1 w fun v w' => R (.returned v) w') : Calls Tryz.prog aL ⟨[(.int .i64 n1)]⟩ w R :=
  ab (ann := .none) ag mixed Tryz.func76 (Eq.mp (by kernel_rfl) h)
def kM (s1 : List UInt8) (w : World) (K : Value -> World -> Prop) : Prop :=
  Calls Tryz.prog aL ⟨[(.int .i64 (((List.length s1) : Nat) : Int))]⟩ w fun e2 w3 =>
  ∃ s4, e2 = .returned (Slc.v s4) /\
  ak 1 5 [(.int .u8 0)] w3 s4 (.str s1) fun s5 w6 =>
  K (Slc.v s5) w6
theorem oS (s1 : List UInt8) {w : World} {R : Ending -> World -> Prop} (h : kM s1 w fun v w' => R (.returned v) w') : Calls Tryz.prog fK ⟨[(dA s1)]⟩ w R :=
  ab (ann := .none) ag mixed Tryz.func135 (Eq.mp (by kernel_rfl) h)
end Go.D

