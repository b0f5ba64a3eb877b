/-
  WHAT IS PROVED: verification conditions of functions of this program, each with its soundness. No further conditions.
-/
import Derived.Test.YtbeciidagekppaaGreatDoorBase
set_option linter.unusedSimpArgs false
set_option maxRecDepth 100000
set_option linter.unusedVariables false
namespace Go.D
open Go Go.Proofs
/-- (*tidewater/disk.Device).Stop -/
def disk_Device_Stop (d1 : Option Addr) (after2 : Int) (w : World) (K : Value → World → Prop) : Prop :=
  needSome d1 fun a3 =>
  canW w (a3.add 2) 1 ∧ ∀ w4 : World, w4 = World.setCell w (a3.add 2) (Value.bool true) →
  needSome d1 fun a5 =>
  canW w4 (a5.add 3) 1 ∧ ∀ w6 : World, w6 = World.setCell w4 (a5.add 3) (Value.int .i64 (if (0 : Int) > after2 then (0 : Int) else after2)) →
  K (Value.tuple #[]) w6

theorem disk_Device_Stop_eq (d1 : Option Addr) (after2 : Int) (w : World) (K : Value → World → Prop) : disk_Device_Stop d1 after2 w K = denF Tryz.prog callB Tryz.f11 .none [(Value.pointer d1), (Value.int .i64 after2)] w K := by kernel_rfl
theorem disk_Device_Stop_ok (d1 : Option Addr) (after2 : Int) {w : World} {R : Ending → World → Prop} (h : disk_Device_Stop d1 after2 w fun v w' => R (.returned v) w') : Calls Tryz.prog fn_disk_Device_Stop ⟨[(Value.pointer d1), (Value.int .i64 after2)]⟩ w R :=
  calls_of_den callB_ok mixed Tryz.func11 (disk_Device_Stop_eq d1 after2 w _ ▸ h)

end Go.D
