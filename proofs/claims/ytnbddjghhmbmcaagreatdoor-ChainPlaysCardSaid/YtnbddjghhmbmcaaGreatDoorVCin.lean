/-
  WHAT IS PROVED: verification conditions of functions of this program, each with its soundness. No further conditions.
-/
import Derived.Test.YtnbddjghhmbmcaaGreatDoorBase
set_option linter.unusedSimpArgs false
set_option maxRecDepth 100000
set_option linter.unusedVariables false
namespace Go.D
open Go Go.Proofs
def pN (list1 : Slc) (n2 : Int) (w : World) (K : Value -> World -> Prop) : Prop :=
  ∃ (I3 : (Int) -> World -> Prop) (mu4 : (Int) -> World -> Nat), I3 ((0 : Int)) w /\ (
  ∀ i5 : Int, ∀ w6 : World, I3 i5 w6 -> ∀ _ _ _ _ _ _ _ _ _ : Value,
  BIf (decide (i5 < (list1.l : Int))) (
  needSome list1.p fun a16 =>
  0 <= i5 /\ i5 < (list1.l : Int) /\
  ∃ n17, w6.cell? (Addr.add a16 ((Int.toNat i5) * 1)) = some (.int .i64 n17) /\
  BIf (decide (n17 = n2)) (
  K (.bool true) w6) (
  inR .i64 (i5 + 1) /\
  (I3 ((i5 + 1)) w6 /\ mu4 ((i5 + 1)) w6 < mu4 i5 w6))) (
  K (.bool false) w6))
theorem sk (list1 : Slc) (n2 : Int) {w : World} {R : Ending -> World -> Prop} (h : pN list1 n2 w fun v w' => R (.returned v) w') : Calls Tryz.prog iC ⟨[list1.v, (.int .i64 n2)]⟩ w R :=
  ab (ann := (.two .none (.two (.two .none (.one (.loop [(9, (Sh.int .i64))] [4, 6, 10, 11, 12, 13, 14, 15, 16] .none))) .none))) ag mixed Tryz.func96 (Eq.mp (by kernel_rfl) h)
end Go.D

