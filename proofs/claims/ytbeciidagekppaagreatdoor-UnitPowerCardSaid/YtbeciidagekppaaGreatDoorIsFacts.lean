/-
  WHAT IS PROVED: contracts of functions, and the plain law, for this proof. No further conditions.
-/
import Derived.Test.YtbeciidagekppaaGreatDoorChecked
import Derived.WalkKit
import Derived.LaidEql
import Derived.Stop.IfaceNil
import Derived.Stop.Asserts
import Derived.RowKitTokens
set_option linter.unusedVariables false
set_option linter.unusedSimpArgs false
set_option maxRecDepth 4000
namespace Go.D
open Go Go.Proofs Go.RowKit Go.Extern.Stop Go.Stop Go.Extern

theorem isTypeOf (v : Value) (w : World) : (Extern.ReflectliteType.typeOf #[.iface 167 v]).run Tryz.prog w = .ok (.iface 152 (.agg #[.pointer (some ⟨19, 167, none⟩)])) w := by kernel_rfl
theorem isComparable (w : World) : ((Extern.ReflectliteType.method fun t => do Extern.Rtype.noPackHeld "Comparable" t; (fun a => Value.bool a.comparable) <$> typeInfo t) #[.agg #[.pointer (some ⟨19, 167, none⟩)]]).run Tryz.prog w = .ok (.bool true) w := by kernel_rfl
theorem isMethodComparable (v : Value) (w : World) : (Go.method 304 152 v "Comparable").run Tryz.prog w = .ok (131, v) w := by kernel_rfl
theorem isComp : (Tryz.prog.info? 167).map (·.comparable) = some true := by kernel_rfl
theorem isSize : (Tryz.prog.info? 192).map (·.size) = some 1 := by kernel_rfl
theorem noIsE (v : Value) (xT : TypeId) (w : World) : (Instr.typeAssert (.iface 167 v) xT 154 true).run Tryz.prog w = .ok (.tuple #[.nilIface, .bool false]) w := run_typeAssert_lacksB Tryz.underlying154 (by kernel_rfl) (by kernel_rfl) v xT w
theorem noUnwrapE (v : Value) (xT : TypeId) (w : World) : (Instr.typeAssert (.iface 167 v) xT 157 true).run Tryz.prog w = .ok (.tuple #[.nilIface, .bool false]) w := run_typeAssert_lacksB Tryz.underlying157 (by kernel_rfl) (by kernel_rfl) v xT w
theorem noUnwrapsE (v : Value) (xT : TypeId) (w : World) : (Instr.typeAssert (.iface 167 v) xT 158 true).run Tryz.prog w = .ok (.tuple #[.nilIface, .bool false]) w := run_typeAssert_lacksB Tryz.underlying158 (by kernel_rfl) (by kernel_rfl) v xT w

/-- errors.Is(x, x). -/
theorem Is_same (a : Addr) (w : World) :
    Calls Tryz.prog 51 #[.iface 167 (.pointer (some a)), .iface 167 (.pointer (some a))] w fun e w' => e = .returned (.bool true) ∧ w' = w := by
  have hn1 := fun w => run_eql_iface_nil (P := Tryz.prog) 35 (by kernel_rfl) 167 (.pointer (some a)) (w := w)
  have h8 := @run_callFunc_extern Tryz.prog 77 _ Extern.ReflectliteType.typeOf Tryz.func77 (by kernel_rfl) (by kernel_rfl) (by kernel_rfl) (by kernel_rfl)
  have h32 := @run_callFunc_extern Tryz.prog 131 _ (Extern.ReflectliteType.method fun t => do Extern.Rtype.noPackHeld "Comparable" t; pure (.bool (← typeInfo t).comparable)) Tryz.func131 (by kernel_rfl) (by kernel_rfl) (by kernel_rfl) (by kernel_rfl)
  have tT := isTypeOf
  have cT := isComparable
  have mR := isMethodComparable
  obtain ⟨i, hi, hcmp⟩ := Option.map_eq_some_iff.1 isComp
  obtain ⟨j, hj, hjs⟩ := Option.map_eq_some_iff.1 isSize
  have heq := run_eql_iface_ptr_same (P := Tryz.prog) w a Tryz.underlying35 Tryz.underlying167 hi hcmp hj
  go_enter Tryz.func51, Tryz.ntmps51
  go_wp2
  refine wp_loop_rounds 1 ?_
  rw [rounds_succ]
  go_wp2
  go_ret
  exact ⟨rfl, rfl⟩

/-- errors.Is(x, y), two different errors of errors.New's make. -/
theorem Is_other (a b : Addr) (ca cb : Array Value) (ta tb : TypeId) (w : World) (hne : a ≠ b) (ha : w.heap[a.block]? = some (.cells ca ta (0, 0))) (hb : w.heap[b.block]? = some (.cells cb tb (0, 0))) :
    Calls Tryz.prog 51 #[.iface 167 (.pointer (some a)), .iface 167 (.pointer (some b))] w fun e w' => e = .returned (.bool false) ∧ w' = w := by
  have hn1 := fun w => run_eql_iface_nil (P := Tryz.prog) 35 (by kernel_rfl) 167 (.pointer (some a)) (w := w)
  have h8 := @run_callFunc_extern Tryz.prog 77 _ Extern.ReflectliteType.typeOf Tryz.func77 (by kernel_rfl) (by kernel_rfl) (by kernel_rfl) (by kernel_rfl)
  have h32 := @run_callFunc_extern Tryz.prog 131 _ (Extern.ReflectliteType.method fun t => do Extern.Rtype.noPackHeld "Comparable" t; pure (.bool (← typeInfo t).comparable)) Tryz.func131 (by kernel_rfl) (by kernel_rfl) (by kernel_rfl) (by kernel_rfl)
  have tT := isTypeOf
  have cT := isComparable
  have mR := isMethodComparable
  have hn2 := fun w => run_eql_iface_nil (P := Tryz.prog) 35 (by kernel_rfl) 167 (.pointer (some b)) (w := w)
  obtain ⟨i, hi, hcmp⟩ := Option.map_eq_some_iff.1 isComp
  obtain ⟨j, hj, hjs⟩ := Option.map_eq_some_iff.1 isSize
  have nE := noIsE
  have uE := noUnwrapE
  have vE := noUnwrapsE
  have heq := run_eql_iface_ptr_other (P := Tryz.prog) w Tryz.underlying35 Tryz.underlying167 hi hcmp hj (by rw [hjs]; decide) hne ha hb
  go_enter Tryz.func51, Tryz.ntmps51
  go_wp2
  refine wp_loop_rounds 1 ?_
  rw [rounds_succ]
  go_wp2
  go_ret
  exact ⟨rfl, rfl⟩
end Go.D
