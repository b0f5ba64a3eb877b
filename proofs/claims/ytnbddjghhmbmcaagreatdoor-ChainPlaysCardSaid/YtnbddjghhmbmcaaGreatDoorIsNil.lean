/-
  WHAT IS PROVED: contracts of functions, and the plain law, for this proof. No further conditions.
-/
import Derived.Test.YtnbddjghhmbmcaaGreatDoorChecked
import Derived.WalkKit
import Derived.LaidEql
import Derived.Stop.IfaceNil
import Derived.Stop.Asserts
import Derived.RowKitTokens
set_option linter.unusedVariables false
set_option linter.unusedSimpArgs false
set_option maxRecDepth 4000
namespace Go.D
open Go Go.Proofs Go.RowKit Go.Extern.Stop Go.Stop Go.Extern
theorem HB (a : Addr) (w : World) :
  Calls Tryz.prog 30 #[.nilIface, .iface 232 (.pointer (some a))] w fun e w' => e = .returned (.bool false) /\ w' = w := by
 have hn1 := fun w => run_eql_iface_nil (P := Tryz.prog) 42 (by kernel_rfl) 232 (.pointer (some a)) (w := w)
 have hn2 := fun w => run_eql_nil_nil_at (P := Tryz.prog) 42 (by kernel_rfl) (w := w)
 have hn3 := fun w => run_eql_iface_nil_left (P := Tryz.prog) (w := w) 232 (.pointer (some a)) Tryz.underlying42
 go_enter Tryz.func30, Tryz.ntmps30
 go_wp2
 go_ret
 exact ⟨rfl, rfl⟩
end Go.D

