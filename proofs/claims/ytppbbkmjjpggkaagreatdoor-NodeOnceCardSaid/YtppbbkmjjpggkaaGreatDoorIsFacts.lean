/-
  WHAT IS PROVED: contracts of functions, and the plain law, for this proof. No further conditions.
-/
import Derived.Test.YtppbbkmjjpggkaaGreatDoorChecked
import Derived.WalkKit
import Derived.LaidEql
import Derived.Stop.IfaceNil
import Derived.Stop.Asserts
import Derived.RowKitTokens
set_option linter.unusedVariables false
set_option linter.unusedSimpArgs false
set_option maxRecDepth 4000
namespace Go.D
open Go Go.Proofs Go.RowKit Go.Extern.Stop Go.Stop Go.Extern
theorem Ak (v : Value) (w : World) : (Extern.ReflectliteType.typeOf #[.iface 252 v]).run Tryz.prog w = .ok (.iface 206 (.agg #[.pointer (some ⟨19, 252, none⟩)])) w := by kernel_rfl
theorem rq (w : World) : ((Extern.ReflectliteType.method fun t => do Extern.Rtype.noPackHeld "Comparable" t; (fun a => Value.bool a.comparable) <$> typeInfo t) #[.agg #[.pointer (some ⟨19, 252, none⟩)]]).run Tryz.prog w = .ok (.bool true) w := by kernel_rfl
theorem j5 (v : Value) (w : World) : (Go.method 388 206 v "Comparable").run Tryz.prog w = .ok (187, v) w := by kernel_rfl
theorem Ek : (Tryz.prog.info? 252).map (·.comparable) = some true := by kernel_rfl
theorem El : (Tryz.prog.info? 276).map (·.size) = some 1 := by kernel_rfl
theorem Hk (v : Value) (xT : TypeId) (w : World) : (Instr.typeAssert (.iface 252 v) xT 208 true).run Tryz.prog w = .ok (.tuple #[.nilIface, .bool false]) w := run_typeAssert_lacksB Tryz.underlying208 (by kernel_rfl) (by kernel_rfl) v xT w
theorem Dn (v : Value) (xT : TypeId) (w : World) : (Instr.typeAssert (.iface 252 v) xT 210 true).run Tryz.prog w = .ok (.tuple #[.nilIface, .bool false]) w := run_typeAssert_lacksB Tryz.underlying210 (by kernel_rfl) (by kernel_rfl) v xT w
theorem BF (v : Value) (xT : TypeId) (w : World) : (Instr.typeAssert (.iface 252 v) xT 211 true).run Tryz.prog w = .ok (.tuple #[.nilIface, .bool false]) w := run_typeAssert_lacksB Tryz.underlying211 (by kernel_rfl) (by kernel_rfl) v xT w
theorem FX (a : Addr) (w : World) :
  Calls Tryz.prog 41 #[.iface 252 (.pointer (some a)), .iface 252 (.pointer (some a))] w fun e w' => e = .returned (.bool true) /\ w' = w := by
 have hn1 := fun w => run_eql_iface_nil (P := Tryz.prog) 51 (by kernel_rfl) 252 (.pointer (some a)) (w := w)
 have h8 := @run_callFunc_extern Tryz.prog 82 _ Extern.ReflectliteType.typeOf Tryz.func82 (by kernel_rfl) (by kernel_rfl) (by kernel_rfl) (by kernel_rfl)
 have h32 := @run_callFunc_extern Tryz.prog 187 _ (Extern.ReflectliteType.method fun t => do Extern.Rtype.noPackHeld "Comparable" t; pure (.bool (<- typeInfo t).comparable)) Tryz.func187 (by kernel_rfl) (by kernel_rfl) (by kernel_rfl) (by kernel_rfl)
 have tT := Ak
 have cT := rq
 have mR := j5
 obtain ⟨i, hi, hcmp⟩ := Option.map_eq_some_iff.1 Ek
 obtain ⟨j, hj, hjs⟩ := Option.map_eq_some_iff.1 El
 have heq := run_eql_iface_ptr_same (P := Tryz.prog) w a Tryz.underlying51 Tryz.underlying252 hi hcmp hj
 go_enter Tryz.func41, Tryz.ntmps41
 go_wp2
 refine wp_loop_rounds 1 ?_
 rw [rounds_succ]
 go_wp2
 go_ret
 exact ⟨rfl, rfl⟩
theorem Em (a b : Addr) (ca cb : Array Value) (ta tb : TypeId) (w : World) (hne : a ≠ b) (ha : w.heap[a.block]? = some (.cells ca ta (0, 0))) (hb : w.heap[b.block]? = some (.cells cb tb (0, 0))) :
  Calls Tryz.prog 41 #[.iface 252 (.pointer (some a)), .iface 252 (.pointer (some b))] w fun e w' => e = .returned (.bool false) /\ w' = w := by
 have hn1 := fun w => run_eql_iface_nil (P := Tryz.prog) 51 (by kernel_rfl) 252 (.pointer (some a)) (w := w)
 have h8 := @run_callFunc_extern Tryz.prog 82 _ Extern.ReflectliteType.typeOf Tryz.func82 (by kernel_rfl) (by kernel_rfl) (by kernel_rfl) (by kernel_rfl)
 have h32 := @run_callFunc_extern Tryz.prog 187 _ (Extern.ReflectliteType.method fun t => do Extern.Rtype.noPackHeld "Comparable" t; pure (.bool (<- typeInfo t).comparable)) Tryz.func187 (by kernel_rfl) (by kernel_rfl) (by kernel_rfl) (by kernel_rfl)
 have tT := Ak
 have cT := rq
 have mR := j5
 have hn2 := fun w => run_eql_iface_nil (P := Tryz.prog) 51 (by kernel_rfl) 252 (.pointer (some b)) (w := w)
 obtain ⟨i, hi, hcmp⟩ := Option.map_eq_some_iff.1 Ek
 obtain ⟨j, hj, hjs⟩ := Option.map_eq_some_iff.1 El
 have nE := Hk
 have uE := Dn
 have vE := BF
 have heq := run_eql_iface_ptr_other (P := Tryz.prog) w Tryz.underlying51 Tryz.underlying252 hi hcmp hj (by rw [hjs]; decide) hne ha hb
 go_enter Tryz.func41, Tryz.ntmps41
 go_wp2
 refine wp_loop_rounds 1 ?_
 rw [rounds_succ]
 go_wp2
 go_ret
 exact ⟨rfl, rfl⟩
end Go.D

