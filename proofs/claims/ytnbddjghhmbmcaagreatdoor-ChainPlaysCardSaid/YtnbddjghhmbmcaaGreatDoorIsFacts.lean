/-
  WHAT IS PROVED: contracts of functions, and the plain law, for this proof. No further conditions.
-/
import Derived.Test.YtnbddjghhmbmcaaGreatDoorChecked
import Derived.WalkKit
import Derived.LaidEql
import Derived.Stop.IfaceNil
import Derived.Stop.Asserts
import Derived.RowKitTokens
set_option linter.unusedVariables false
set_option linter.unusedSimpArgs false
set_option maxRecDepth 4000
namespace Go.D
open Go Go.Proofs Go.RowKit Go.Extern.Stop Go.Stop Go.Extern
theorem BI (v : Value) (w : World) : (Extern.ReflectliteType.typeOf #[.iface 232 v]).run Tryz.prog w = .ok (.iface 149 (.agg #[.pointer (some ⟨19, 232, none⟩)])) w := by kernel_rfl
theorem tj (w : World) : ((Extern.ReflectliteType.method fun t => do Extern.Rtype.noPackHeld "Comparable" t; (fun a => Value.bool a.comparable) <$> typeInfo t) #[.agg #[.pointer (some ⟨19, 232, none⟩)]]).run Tryz.prog w = .ok (.bool true) w := by kernel_rfl
theorem lJ (v : Value) (w : World) : (Go.method 368 149 v "Comparable").run Tryz.prog w = .ok (185, v) w := by kernel_rfl
theorem Fg : (Tryz.prog.info? 232).map (·.comparable) = some true := by kernel_rfl
theorem Fh : (Tryz.prog.info? 256).map (·.size) = some 1 := by kernel_rfl
theorem HZ (v : Value) (xT : TypeId) (w : World) : (Instr.typeAssert (.iface 232 v) xT 151 true).run Tryz.prog w = .ok (.tuple #[.nilIface, .bool false]) w := run_typeAssert_lacksB Tryz.underlying151 (by kernel_rfl) (by kernel_rfl) v xT w
theorem Ek (v : Value) (xT : TypeId) (w : World) : (Instr.typeAssert (.iface 232 v) xT 154 true).run Tryz.prog w = .ok (.tuple #[.nilIface, .bool false]) w := run_typeAssert_lacksB Tryz.underlying154 (by kernel_rfl) (by kernel_rfl) v xT w
theorem CP (v : Value) (xT : TypeId) (w : World) : (Instr.typeAssert (.iface 232 v) xT 155 true).run Tryz.prog w = .ok (.tuple #[.nilIface, .bool false]) w := run_typeAssert_lacksB Tryz.underlying155 (by kernel_rfl) (by kernel_rfl) v xT w
theorem GL (a : Addr) (w : World) :
  Calls Tryz.prog 30 #[.iface 232 (.pointer (some a)), .iface 232 (.pointer (some a))] w fun e w' => e = .returned (.bool true) /\ w' = w := by
 have hn1 := fun w => run_eql_iface_nil (P := Tryz.prog) 42 (by kernel_rfl) 232 (.pointer (some a)) (w := w)
 have h8 := @run_callFunc_extern Tryz.prog 58 _ Extern.ReflectliteType.typeOf Tryz.func58 (by kernel_rfl) (by kernel_rfl) (by kernel_rfl) (by kernel_rfl)
 have h32 := @run_callFunc_extern Tryz.prog 185 _ (Extern.ReflectliteType.method fun t => do Extern.Rtype.noPackHeld "Comparable" t; pure (.bool (<- typeInfo t).comparable)) Tryz.func185 (by kernel_rfl) (by kernel_rfl) (by kernel_rfl) (by kernel_rfl)
 have tT := BI
 have cT := tj
 have mR := lJ
 obtain ⟨i, hi, hcmp⟩ := Option.map_eq_some_iff.1 Fg
 obtain ⟨j, hj, hjs⟩ := Option.map_eq_some_iff.1 Fh
 have heq := run_eql_iface_ptr_same (P := Tryz.prog) w a Tryz.underlying42 Tryz.underlying232 hi hcmp hj
 go_enter Tryz.func30, Tryz.ntmps30
 go_wp2
 refine wp_loop_rounds 1 ?_
 rw [rounds_succ]
 go_wp2
 go_ret
 exact ⟨rfl, rfl⟩
theorem Fi (a b : Addr) (ca cb : Array Value) (ta tb : TypeId) (w : World) (hne : a ≠ b) (ha : w.heap[a.block]? = some (.cells ca ta (0, 0))) (hb : w.heap[b.block]? = some (.cells cb tb (0, 0))) :
  Calls Tryz.prog 30 #[.iface 232 (.pointer (some a)), .iface 232 (.pointer (some b))] w fun e w' => e = .returned (.bool false) /\ w' = w := by
 have hn1 := fun w => run_eql_iface_nil (P := Tryz.prog) 42 (by kernel_rfl) 232 (.pointer (some a)) (w := w)
 have h8 := @run_callFunc_extern Tryz.prog 58 _ Extern.ReflectliteType.typeOf Tryz.func58 (by kernel_rfl) (by kernel_rfl) (by kernel_rfl) (by kernel_rfl)
 have h32 := @run_callFunc_extern Tryz.prog 185 _ (Extern.ReflectliteType.method fun t => do Extern.Rtype.noPackHeld "Comparable" t; pure (.bool (<- typeInfo t).comparable)) Tryz.func185 (by kernel_rfl) (by kernel_rfl) (by kernel_rfl) (by kernel_rfl)
 have tT := BI
 have cT := tj
 have mR := lJ
 have hn2 := fun w => run_eql_iface_nil (P := Tryz.prog) 42 (by kernel_rfl) 232 (.pointer (some b)) (w := w)
 obtain ⟨i, hi, hcmp⟩ := Option.map_eq_some_iff.1 Fg
 obtain ⟨j, hj, hjs⟩ := Option.map_eq_some_iff.1 Fh
 have nE := HZ
 have uE := Ek
 have vE := CP
 have heq := run_eql_iface_ptr_other (P := Tryz.prog) w Tryz.underlying42 Tryz.underlying232 hi hcmp hj (by rw [hjs]; decide) hne ha hb
 go_enter Tryz.func30, Tryz.ntmps30
 go_wp2
 refine wp_loop_rounds 1 ?_
 rw [rounds_succ]
 go_wp2
 go_ret
 exact ⟨rfl, rfl⟩
end Go.D

