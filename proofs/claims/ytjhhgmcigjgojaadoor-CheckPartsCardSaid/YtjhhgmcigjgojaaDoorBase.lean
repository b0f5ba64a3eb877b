/-
  WHAT IS PROVED: the calls and globals of this program. No further conditions.
-/
import Derived.Test.YtjhhgmcigjgojaaDoorMem
import Derived.Test.YtjhhgmcigjgojaaDoorProg
import Derived.KernelRfl
set_option linter.unusedSimpArgs false
set_option maxRecDepth 100000
set_option linter.unusedVariables false
namespace Go.D
open Go Go.Proofs
def callL : List Nat := [2, 3, 4, 5, 6, 7, 8, 9, 10, 11, 12, 13, 14, 15, 16, 17, 18, 19, 20, 22, 23, 24, 25, 26, 27, 28, 29, 60, 82]
def callB (f : Nat) : Bool := callL.contains f
theorem callL_ok : ∀ f ∈ callL, ∀ (args : Array Value) (w : World), (callFunc f args).run Tryd.prog w = .ok (.enter f args) w := by
  simp only [callL, List.forall_mem_cons]
  exact ⟨Tryd.call2, Tryd.call3, Tryd.call4, Tryd.call5, Tryd.call6, Tryd.call7, Tryd.call8, Tryd.call9, Tryd.call10, Tryd.call11, Tryd.call12, Tryd.call13, Tryd.call14, Tryd.call15, Tryd.call16, Tryd.call17, Tryd.call18, Tryd.call19, Tryd.call20, Tryd.call22, Tryd.call23, Tryd.call24, Tryd.call25, Tryd.call26, Tryd.call27, Tryd.call28, Tryd.call29, Tryd.call60, Tryd.call82, by simp⟩
theorem callB_ok : Callable Tryd.prog callB := fun f args w h => callL_ok f (by simpa [callB] using h) args w
theorem mixed : Tryd.prog.follows .mixedOrders = true := by kernel_rfl

abbrev fn_tidewaterlaw24_CheckParts : Nat := 3
abbrev fn_tidewaterlaw24_alive : Nat := 4
abbrev fn_tidewaternum_Bytes : Nat := 5
abbrev fn_check_Parts : Nat := 6
abbrev fn_tidewaterref24_Parts : Nat := 7
abbrev fn_tidewaternum_Num : Nat := 8
abbrev fn_tidewaternum_Kept : Nat := 9
abbrev fn_tidewaterref05_Same : Nat := 10
abbrev fn_slices_Chunk_byte : Nat := 11
abbrev fn_check_summed : Nat := 12
abbrev fn_slices_Clone_byte : Nat := 13
abbrev fn_tidewaterref24_summed : Nat := 14
abbrev fn_errors_Is : Nat := 15
abbrev fn_tidewaterref05_Right : Nat := 16
abbrev fn_tidewaterref05_Bytes : Nat := 17
abbrev fn_slices_Chunk_byte_1 : Nat := 18
abbrev fn_sums_Sum : Nat := 19
abbrev fn_tidewaterref01_Sum : Nat := 20
abbrev fn_errors_is : Nat := 22
abbrev fn_tidewaterref05_upto : Nat := 23
abbrev fn_tidewaterref05_key : Nat := 24
abbrev fn_tidewaterref04_Num : Nat := 25
abbrev fn_tidewaterref04_Text : Nat := 26
abbrev fn_sums_step : Nat := 27
abbrev fn_tidewaterref02_Key : Nat := 28
abbrev fn_tidewaterref02_Runes : Nat := 29
abbrev fn_errors_New : Nat := 60
abbrev gl_ErrRange : Nat := 0
abbrev gl_ErrFull : Nat := 1
abbrev gl_ErrShort : Nat := 2
abbrev gl_ErrLong : Nat := 3
abbrev gl_ErrForm : Nat := 4
abbrev gl_ErrSum : Nat := 5
abbrev gl_ErrRune : Nat := 6
abbrev gl_ErrName : Nat := 7
abbrev gl_ErrSealed : Nat := 8
abbrev gl_ErrWritten : Nat := 9
abbrev gl_ErrUnwritten : Nat := 10
abbrev gl_ErrTrimmed : Nat := 11
abbrev gl_ErrDown : Nat := 12
abbrev gl_ErrEpoch : Nat := 13
abbrev gl_ErrMoved : Nat := 14
abbrev gl_ErrNone : Nat := 15
abbrev gl_ErrState : Nat := 16
abbrev gl_ErrClash : Nat := 17
abbrev gl_ErrStale : Nat := 18
abbrev tyErr : Nat := 77
abbrev ty_abi_BoundsErrorCode : Nat := 6
abbrev ty_runtime_boundsError : Nat := 8
abbrev ty_runtime_errorString : Nat := 10
abbrev ty_runtime_plainError : Nat := 11
abbrev ty_runtime_errorAddressString : Nat := 14
abbrev ty_maps_unhashableTypeError : Nat := 19
abbrev ty_api_Entry : Nat := 37
abbrev ty_reflectlite_Type : Nat := 52
abbrev ty_api_Op : Nat := 57
abbrev ty_reflectlite_rtype : Nat := 65
abbrev ty_runtime_TypeAssertionError : Nat := 80
abbrev ty_runtime_PanicNilError : Nat := 83
abbrev ty_abi_TFlag : Nat := 85
abbrev ty_abi_Kind : Nat := 86
abbrev ty_abi_NameOff : Nat := 89
abbrev ty_abi_TypeOff : Nat := 90
abbrev ty_abi_Type : Nat := 92
abbrev ty_reflectlite_ValueError : Nat := 100
abbrev ty_errors_errorString : Nat := 102
abbrev ty_unsafe_Pointer : Nat := 103
abbrev ty_abi_UncommonType : Nat := 108
abbrev ty_abi_TextOff : Nat := 110
abbrev ty_abi_Method : Nat := 112
end Go.D
