/-
  WHAT IS PROVED: the calls and globals of this program. No further conditions.
-/
import Derived.Test.YtlahdjoonioegaaDoorMem
import Derived.Test.YtlahdjoonioegaaDoorProg
import Derived.KernelRfl
set_option linter.unusedSimpArgs false
set_option maxRecDepth 100000
set_option linter.unusedVariables false
namespace Go.D
open Go Go.Proofs
def callL : List Nat := [2, 3, 4, 5, 6, 7, 8, 9, 10, 11, 12, 13, 14, 15, 16, 17, 18, 19, 20, 21, 22, 23, 24, 26, 27, 58, 80]
def callB (f : Nat) : Bool := callL.contains f
theorem callL_ok : ∀ f ∈ callL, ∀ (args : Array Value) (w : World), (callFunc f args).run Tryd.prog w = .ok (.enter f args) w := by
  simp only [callL, List.forall_mem_cons]
  exact ⟨Tryd.call2, Tryd.call3, Tryd.call4, Tryd.call5, Tryd.call6, Tryd.call7, Tryd.call8, Tryd.call9, Tryd.call10, Tryd.call11, Tryd.call12, Tryd.call13, Tryd.call14, Tryd.call15, Tryd.call16, Tryd.call17, Tryd.call18, Tryd.call19, Tryd.call20, Tryd.call21, Tryd.call22, Tryd.call23, Tryd.call24, Tryd.call26, Tryd.call27, Tryd.call58, Tryd.call80, by simp⟩
theorem callB_ok : Callable Tryd.prog callB := fun f args w h => callL_ok f (by simpa [callB] using h) args w
theorem mixed : Tryd.prog.follows .mixedOrders = true := by kernel_rfl

abbrev fn_tidewaterlaw07_DiskFlushes : Nat := 3
abbrev fn_tidewaterlaw07_DiskFrom : Nat := 4
abbrev fn_tidewaterlaw07_alive : Nat := 5
abbrev fn_disk_New : Nat := 6
abbrev fn_disk_Device_Write : Nat := 7
abbrev fn_disk_Device_Flush : Nat := 8
abbrev fn_disk_Device_Image : Nat := 9
abbrev fn_disk_Device_Crash : Nat := 10
abbrev fn_disk_Device_Pending : Nat := 11
abbrev fn_disk_Device_Down : Nat := 12
abbrev fn_tidewaternum_Bytes : Nat := 13
abbrev fn_disk_From : Nat := 14
abbrev fn_tidewaternum_Num : Nat := 15
abbrev fn_tidewaternum_Kept : Nat := 16
abbrev fn_disk_Device_Read : Nat := 17
abbrev fn_disk_Device_Len : Nat := 18
abbrev fn_disk_Device_has : Nat := 19
abbrev fn_disk_Device_down : Nat := 20
abbrev fn_slices_Clone_byte : Nat := 21
abbrev fn_disk_Device_do : Nat := 22
abbrev fn_errors_Is : Nat := 23
abbrev fn_slices_Backward_write : Nat := 24
abbrev fn_errors_is : Nat := 26
abbrev fn_slices_Backward_write_1 : Nat := 27
abbrev fn_errors_New : Nat := 58
abbrev gl_ErrRange : Nat := 0
abbrev gl_ErrForm : Nat := 1
abbrev gl_ErrDown : Nat := 2
abbrev gl_ErrShort : Nat := 3
abbrev gl_ErrLong : Nat := 4
abbrev gl_ErrSum : Nat := 5
abbrev gl_ErrRune : Nat := 6
abbrev gl_ErrName : Nat := 7
abbrev gl_ErrSealed : Nat := 8
abbrev gl_ErrWritten : Nat := 9
abbrev gl_ErrUnwritten : Nat := 10
abbrev gl_ErrTrimmed : Nat := 11
abbrev gl_ErrFull : Nat := 12
abbrev gl_ErrEpoch : Nat := 13
abbrev gl_ErrMoved : Nat := 14
abbrev gl_ErrNone : Nat := 15
abbrev gl_ErrState : Nat := 16
abbrev gl_ErrClash : Nat := 17
abbrev gl_ErrStale : Nat := 18
abbrev tyErr : Nat := 73
abbrev ty_abi_BoundsErrorCode : Nat := 6
abbrev ty_runtime_boundsError : Nat := 8
abbrev ty_runtime_errorString : Nat := 10
abbrev ty_runtime_plainError : Nat := 11
abbrev ty_runtime_errorAddressString : Nat := 14
abbrev ty_maps_unhashableTypeError : Nat := 19
abbrev ty_tidewaterlaw07_Act : Nat := 31
abbrev ty_disk_Device : Nat := 49
abbrev ty_disk_write : Nat := 52
abbrev ty_reflectlite_Type : Nat := 60
abbrev ty_reflectlite_rtype : Nat := 65
abbrev ty_runtime_TypeAssertionError : Nat := 76
abbrev ty_runtime_PanicNilError : Nat := 79
abbrev ty_abi_TFlag : Nat := 81
abbrev ty_abi_Kind : Nat := 82
abbrev ty_abi_NameOff : Nat := 85
abbrev ty_abi_TypeOff : Nat := 86
abbrev ty_abi_Type : Nat := 88
abbrev ty_reflectlite_ValueError : Nat := 96
abbrev ty_errors_errorString : Nat := 98
abbrev ty_unsafe_Pointer : Nat := 99
abbrev ty_abi_UncommonType : Nat := 104
abbrev ty_abi_TextOff : Nat := 106
abbrev ty_abi_Method : Nat := 108
end Go.D
