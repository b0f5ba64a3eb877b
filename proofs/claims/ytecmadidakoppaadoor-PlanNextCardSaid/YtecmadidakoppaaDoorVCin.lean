/-
  WHAT IS PROVED: verification conditions of functions of this program, each with its soundness. No further conditions.
-/
import Derived.Test.YtecmadidakoppaaDoorBase
set_option linter.unusedSimpArgs false
set_option maxRecDepth 100000
set_option linter.unusedVariables false
namespace Go.D
open Go Go.Proofs
/-- tidewater/tidewaternum.In -/
def tidewaternum_In (list1 : Slc) (n2 : Int) (w : World) (K : Value → World → Prop) : Prop :=
  ∃ (I3 : (Int) → World → Prop) (mu4 : (Int) → World → Nat), I3 ((0 : Int)) w ∧ (
  ∀ i5 : Int, ∀ w6 : World, I3 i5 w6 → ∀ u7 u8 u9 u10 u11 u12 u13 u14 u15 : Value,
    BIf (decide (i5 < ((list1.l : Nat) : Int))) (
      needSome list1.p fun a16 =>
      0 ≤ i5 ∧ i5 < ((list1.l : Nat) : Int) ∧
      ∃ n17 : Int, World.cell? w6 (Addr.add a16 ((Int.toNat i5) * 1)) = some (Value.int .i64 n17) ∧
      BIf (decide (n17 = n2)) (
        K (Value.bool true) w6) (
        inR .i64 (i5 + (1 : Int)) ∧
        (I3 ((i5 + (1 : Int))) w6 ∧ mu4 ((i5 + (1 : Int))) w6 < mu4 i5 w6))) (
      K (Value.bool false) w6))

theorem tidewaternum_In_eq (list1 : Slc) (n2 : Int) (w : World) (K : Value → World → Prop) : tidewaternum_In list1 n2 w K = denF Tryd.prog callB Tryd.f29 (.two .none (.two (.two .none (.one (.loop [(9, (Sh.int .i64))] [4, 6, 10, 11, 12, 13, 14, 15, 16] .none))) .none)) [(Slc.v list1), (Value.int .i64 n2)] w K := by kernel_rfl
theorem tidewaternum_In_ok (list1 : Slc) (n2 : Int) {w : World} {R : Ending → World → Prop} (h : tidewaternum_In list1 n2 w fun v w' => R (.returned v) w') : Calls Tryd.prog fn_tidewaternum_In ⟨[(Slc.v list1), (Value.int .i64 n2)]⟩ w R :=
  calls_of_den callB_ok mixed Tryd.func29 (tidewaternum_In_eq list1 n2 w _ ▸ h)

end Go.D
