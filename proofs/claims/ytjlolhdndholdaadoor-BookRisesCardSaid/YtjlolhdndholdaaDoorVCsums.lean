/-
  WHAT IS PROVED: verification conditions of functions of this program, each with its soundness. No further conditions.
-/
import Derived.Test.YtjlolhdndholdaaDoorBase
set_option linter.unusedSimpArgs false
set_option maxRecDepth 100000
set_option linter.unusedVariables false
namespace Go.D
open Go Go.Proofs
/-- slices.Clone[[]byte,byte] -/
def slices_Clone_byte (s1 : Slc) (w : World) (K : Value → World → Prop) : Prop :=
  BIf (Option.isNone (s1.p : Option Addr)) (
    K (Slc.v (⟨none, 0, 0⟩ : Slc)) w) (
    newS w (.cells ⟨[]⟩ 5) fun r2 w3 =>
    appendS 1 5 [(Value.int .u8 (0 : Int))] w3 (⟨(some (⟨r2, 0, none⟩ : Addr)), 0, 0⟩ : Slc) (.slc s1) fun s4 w5 =>
    K (Slc.v s4) w5)

theorem slices_Clone_byte_eq (s1 : Slc) (w : World) (K : Value → World → Prop) : slices_Clone_byte s1 w K = denF Tryd.prog callB Tryd.f62 .none [(Slc.v s1)] w K := by kernel_rfl
theorem slices_Clone_byte_ok (s1 : Slc) {w : World} {R : Ending → World → Prop} (h : slices_Clone_byte s1 w fun v w' => R (.returned v) w') : Calls Tryd.prog fn_slices_Clone_byte ⟨[(Slc.v s1)]⟩ w R :=
  calls_of_den callB_ok mixed Tryd.func62 (slices_Clone_byte_eq s1 w _ ▸ h)

end Go.D
