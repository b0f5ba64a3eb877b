/-
  WHAT IS PROVED: verification conditions of functions of this program, each with its soundness. No further conditions.
-/
import Derived.Test.YtbeciidagekppaaDoorBase
set_option linter.unusedSimpArgs false
set_option maxRecDepth 100000
set_option linter.unusedVariables false
namespace Go.D
open Go Go.Proofs
/-- tidewater/tidewaterref09.New -/
def tidewaterref09_New (places1 : Int) (w : World) (K : Value → World → Prop) : Prop :=
  newS w (.cells ⟨[(Value.int .i64 places1), (Slc.v (⟨none, 0, 0⟩ : Slc))]⟩ 76) fun r2 w3 =>
  newS w3 (.cells ⟨[(Value.pointer (some (⟨r2, 0, none⟩ : Addr))), (Slc.v (⟨none, 0, 0⟩ : Slc)), (Slc.v (⟨none, 0, 0⟩ : Slc)), (Slc.v (⟨none, 0, 0⟩ : Slc)), (Value.int .i64 (0 : Int)), (Value.int .i64 (0 : Int)), (Value.int .i64 (0 : Int))]⟩ 78) fun r4 w5 =>
  K (Value.pointer (some (⟨r4, 0, none⟩ : Addr))) w5

theorem tidewaterref09_New_eq (places1 : Int) (w : World) (K : Value → World → Prop) : tidewaterref09_New places1 w K = denF Tryd.prog callB Tryd.f16 .none [(Value.int .i64 places1)] w K := by kernel_rfl
theorem tidewaterref09_New_ok (places1 : Int) {w : World} {R : Ending → World → Prop} (h : tidewaterref09_New places1 w fun v w' => R (.returned v) w') : Calls Tryd.prog fn_tidewaterref09_New ⟨[(Value.int .i64 places1)]⟩ w R :=
  calls_of_den callB_ok mixed Tryd.func16 (tidewaterref09_New_eq places1 w _ ▸ h)

end Go.D
