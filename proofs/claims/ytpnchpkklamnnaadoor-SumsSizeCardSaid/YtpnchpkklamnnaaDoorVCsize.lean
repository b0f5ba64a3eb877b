/-
  WHAT IS PROVED: verification conditions of functions of this program, each with its soundness. No further conditions.
-/
import Derived.Test.YtpnchpkklamnnaaDoorBase
set_option linter.unusedSimpArgs false
set_option maxRecDepth 100000
set_option linter.unusedVariables false
namespace Go.D
open Go Go.Proofs
/-- tidewater/tidewaterlaw01.SumsSize -/
def tidewaterlaw01_SumsSize (n1 : Int) (w : World) (K : Value → World → Prop) : Prop :=
  Calls Tryd.prog fn_tidewaterlaw01_alive ⟨[]⟩ w fun e2 w3 =>
  ∃ b4 : Bool, e2 = .returned (Value.bool b4) ∧
  BIf (!b4) (
    K (Value.bool false) w3) (
    ∃ J5 : World → Prop,
    (
      BIf (decide (n1 < (0 : Int))) (
        Calls Tryd.prog fn_sums_Size ⟨[(Value.int .i64 n1)]⟩ w3 fun e6 w7 =>
        ∃ n8 : Int, e6 = .returned (Value.int .i64 n8) ∧
        K (Value.bool (decide (n8 = (0 : Int)))) w7) (
        BIf (decide ((2048 : Int) < n1)) (
          Calls Tryd.prog fn_sums_Size ⟨[(Value.int .i64 n1)]⟩ w3 fun e9 w10 =>
          ∃ n11 : Int, e9 = .returned (Value.int .i64 n11) ∧
          K (Value.bool (decide (n11 = (0 : Int)))) w10) (
          J5 w3))) ∧ (
    ∀ w12 : World, J5 w12 → ∀ u13 u14 u15 u16 u17 u18 u19 u20 u21 u22 : Value,
      0 ≤ n1 ∧ n1 ≤ n1 ∧ n1 ≤ 2 ^ 30 ∧
      newS w12 (.cells ⟨repl (Int.toNat n1) [(Value.int .u8 (0 : Int))]⟩ 5) fun r23 w24 =>
      Calls Tryd.prog fn_sums_Frame ⟨[(Slc.v (⟨(some (⟨r23, 0, none⟩ : Addr)), (Int.toNat n1), (Int.toNat n1)⟩ : Slc))]⟩ w24 fun e25 w26 =>
      ∃ s27 : Slc, ∃ e28 : Value, e25 = .returned (Value.tuple ⟨[(Slc.v s27), e28]⟩) ∧
      isI e28 ∧
      BIf (isNilI e28) (
        Calls Tryd.prog fn_sums_Size ⟨[(Value.int .i64 n1)]⟩ w26 fun e29 w30 =>
        ∃ n31 : Int, e29 = .returned (Value.int .i64 n31) ∧
        BIf (decide (n31 = ((s27.l : Nat) : Int))) (
          inR .i64 (n1 + (6 : Int)) ∧
          K (Value.bool (decide (((s27.l : Nat) : Int) = (n1 + (6 : Int))))) w30) (
          K (Value.bool false) w30)) (
        K (Value.bool false) w26)))

theorem tidewaterlaw01_SumsSize_eq (n1 : Int) (w : World) (K : Value → World → Prop) : tidewaterlaw01_SumsSize n1 w K = denF Tryd.prog callB Tryd.f3 (.two .none (.two .none (.cut [] [2, 7, 8, 9, 10, 11, 12, 13, 14, 15] .none .none))) [(Value.int .i64 n1)] w K := by kernel_rfl
theorem tidewaterlaw01_SumsSize_ok (n1 : Int) {w : World} {R : Ending → World → Prop} (h : tidewaterlaw01_SumsSize n1 w fun v w' => R (.returned v) w') : Calls Tryd.prog fn_tidewaterlaw01_SumsSize ⟨[(Value.int .i64 n1)]⟩ w R :=
  calls_of_den callB_ok mixed Tryd.func3 (tidewaterlaw01_SumsSize_eq n1 w _ ▸ h)

end Go.D
