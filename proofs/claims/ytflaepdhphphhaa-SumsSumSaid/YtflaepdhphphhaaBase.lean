/-
  WHAT IS PROVED: the calls and globals of this program. No further conditions.
-/
import Derived.Test.YtflaepdhphphhaaMem
import Derived.Test.YtflaepdhphphhaaProg
import Derived.KernelRfl
set_option linter.unusedSimpArgs false
set_option maxRecDepth 100000
set_option linter.unusedVariables false
namespace Go.D
open Go Go.Proofs
def callL : List Nat := [2, 3, 4, 5, 6, 7, 8]
def callB (f : Nat) : Bool := callL.contains f
theorem callL_ok : ∀ f ∈ callL, ∀ (args : Array Value) (w : World), (callFunc f args).run Try.prog w = .ok (.enter f args) w := by
  simp only [callL, List.forall_mem_cons]
  exact ⟨Try.call2, Try.call3, Try.call4, Try.call5, Try.call6, Try.call7, Try.call8, by simp⟩
theorem callB_ok : Callable Try.prog callB := fun f args w h => callL_ok f (by simpa [callB] using h) args w
theorem mixed : Try.prog.follows .mixedOrders = true := by kernel_rfl

abbrev fn_tidewaterlaw01_SumsSum : Nat := 3
abbrev fn_tidewaterlaw01_alive : Nat := 4
abbrev fn_sums_Sum : Nat := 5
abbrev fn_tidewaterref01_Sum : Nat := 6
abbrev fn_sums_Size : Nat := 7
abbrev fn_sums_step : Nat := 8
end Go.D
