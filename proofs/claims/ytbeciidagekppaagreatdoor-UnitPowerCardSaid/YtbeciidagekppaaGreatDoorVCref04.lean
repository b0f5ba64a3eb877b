/-
  WHAT IS PROVED: verification conditions of functions of this program, each with its soundness. No further conditions.
-/
import Derived.Test.YtbeciidagekppaaGreatDoorBase
set_option linter.unusedSimpArgs false
set_option maxRecDepth 100000
set_option linter.unusedVariables false
namespace Go.D
open Go Go.Proofs
/-- tidewater/tidewaterref04.Num -/
def tidewaterref04_Num (n1 : Int) (w : World) (K : Value → World → Prop) : Prop :=
  BIf (decide (n1 < (128 : Int))) (
    newS w (.cells ⟨[(Value.int .u8 (IntKind.wrap .u8 n1))]⟩ 5) fun r2 w3 =>
    K (Slc.v (⟨(some (⟨r2, 0, none⟩ : Addr)), 1, 1⟩ : Slc)) w3) (
    0 ≤ n1 ∧ 0 < (128 : Int) ∧
    inR .i64 ((n1 % (128 : Int)) + (128 : Int)) ∧
    newS w (.cells ⟨[(Value.int .u8 (IntKind.wrap .u8 ((n1 % (128 : Int)) + (128 : Int))))]⟩ 5) fun r4 w5 =>
    0 ≤ n1 ∧ 0 < (128 : Int) ∧ inR .i64 n1 ∧
    Calls Tryz.prog fn_tidewaterref04_Num ⟨[(Value.int .i64 (n1 / (128 : Int)))]⟩ w5 fun e6 w7 =>
    ∃ s8 : Slc, e6 = .returned (Slc.v s8) ∧
    appendS 1 5 [(Value.int .u8 (0 : Int))] w7 (⟨(some (⟨r4, 0, none⟩ : Addr)), 1, 1⟩ : Slc) (.slc s8) fun s9 w10 =>
    K (Slc.v s9) w10)

theorem tidewaterref04_Num_eq (n1 : Int) (w : World) (K : Value → World → Prop) : tidewaterref04_Num n1 w K = denF Tryz.prog callB Tryz.f46 .none [(Value.int .i64 n1)] w K := by kernel_rfl
theorem tidewaterref04_Num_ok (n1 : Int) {w : World} {R : Ending → World → Prop} (h : tidewaterref04_Num n1 w fun v w' => R (.returned v) w') : Calls Tryz.prog fn_tidewaterref04_Num ⟨[(Value.int .i64 n1)]⟩ w R :=
  calls_of_den callB_ok mixed Tryz.func46 (tidewaterref04_Num_eq n1 w _ ▸ h)

/-- tidewater/tidewaterref04.Text -/
def tidewaterref04_Text (s1 : List UInt8) (w : World) (K : Value → World → Prop) : Prop :=
  Calls Tryz.prog fn_tidewaterref04_Num ⟨[(Value.int .i64 (((List.length s1) : Nat) : Int))]⟩ w fun e2 w3 =>
  ∃ s4 : Slc, e2 = .returned (Slc.v s4) ∧
  appendS 1 5 [(Value.int .u8 (0 : Int))] w3 s4 (.str s1) fun s5 w6 =>
  K (Slc.v s5) w6

theorem tidewaterref04_Text_eq (s1 : List UInt8) (w : World) (K : Value → World → Prop) : tidewaterref04_Text s1 w K = denF Tryz.prog callB Tryz.f47 .none [(strV s1)] w K := by kernel_rfl
theorem tidewaterref04_Text_ok (s1 : List UInt8) {w : World} {R : Ending → World → Prop} (h : tidewaterref04_Text s1 w fun v w' => R (.returned v) w') : Calls Tryz.prog fn_tidewaterref04_Text ⟨[(strV s1)]⟩ w R :=
  calls_of_den callB_ok mixed Tryz.func47 (tidewaterref04_Text_eq s1 w _ ▸ h)

end Go.D
