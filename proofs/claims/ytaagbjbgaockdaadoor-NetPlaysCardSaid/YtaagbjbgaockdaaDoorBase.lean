/-
  WHAT IS PROVED: the calls and globals of this program. No further conditions.
-/
import Derived.Test.YtaagbjbgaockdaaDoorMem
import Derived.Test.YtaagbjbgaockdaaDoorProg
import Derived.KernelRfl
set_option linter.unusedSimpArgs false
set_option maxRecDepth 100000
set_option linter.unusedVariables false
namespace Go.D
open Go Go.Proofs
def callL : List Nat := [2, 3, 4, 5, 6, 7, 8, 9, 10, 11, 12, 13, 14, 15, 16, 17, 18, 19, 20, 21, 22, 23, 24, 25, 26, 27, 28, 29, 30, 31, 32, 33, 34, 35, 36, 37, 38, 39, 40, 41, 42, 44, 45, 46, 47, 48, 49, 50, 51, 82, 104]
def callB (f : Nat) : Bool := callL.contains f
theorem callL_ok : ∀ f ∈ callL, ∀ (args : Array Value) (w : World), (callFunc f args).run Tryd.prog w = .ok (.enter f args) w := by
  simp only [callL, List.forall_mem_cons]
  exact ⟨Tryd.call2, Tryd.call3, Tryd.call4, Tryd.call5, Tryd.call6, Tryd.call7, Tryd.call8, Tryd.call9, Tryd.call10, Tryd.call11, Tryd.call12, Tryd.call13, Tryd.call14, Tryd.call15, Tryd.call16, Tryd.call17, Tryd.call18, Tryd.call19, Tryd.call20, Tryd.call21, Tryd.call22, Tryd.call23, Tryd.call24, Tryd.call25, Tryd.call26, Tryd.call27, Tryd.call28, Tryd.call29, Tryd.call30, Tryd.call31, Tryd.call32, Tryd.call33, Tryd.call34, Tryd.call35, Tryd.call36, Tryd.call37, Tryd.call38, Tryd.call39, Tryd.call40, Tryd.call41, Tryd.call42, Tryd.call44, Tryd.call45, Tryd.call46, Tryd.call47, Tryd.call48, Tryd.call49, Tryd.call50, Tryd.call51, Tryd.call82, Tryd.call104, by simp⟩
theorem callB_ok : Callable Tryd.prog callB := fun f args w h => callL_ok f (by simpa [callB] using h) args w
theorem mixed : Tryd.prog.follows .mixedOrders = true := by kernel_rfl

abbrev fn_tidewaterlaw32_NetSent : Nat := 3
abbrev fn_tidewaterlaw32_NetPlays : Nat := 4
abbrev fn_tidewaterlaw32_NetFlows : Nat := 5
abbrev fn_tidewaterlaw32_alive : Nat := 6
abbrev fn_tidewaterlaw32_long : Nat := 7
abbrev fn_net_New : Nat := 8
abbrev fn_net_Net_Send : Nat := 9
abbrev fn_net_Net_Deliver : Nat := 10
abbrev fn_net_Net_Drop : Nat := 11
abbrev fn_net_Net_Double : Nat := 12
abbrev fn_net_Net_Waiting : Nat := 13
abbrev fn_tidewaternum_Num : Nat := 14
abbrev fn_tidewaterref32_New : Nat := 15
abbrev fn_tidewaterlaw32_do : Nat := 16
abbrev fn_tidewaterlaw32_same : Nat := 17
abbrev fn_net_Net_Join : Nat := 18
abbrev fn_net_Net_Set : Nat := 19
abbrev fn_net_Net_First : Nat := 20
abbrev fn_slices_Repeat_node : Nat := 21
abbrev fn_net_Net_has : Nat := 22
abbrev fn_net_Net_put : Nat := 23
abbrev fn_net_Net_find : Nat := 24
abbrev fn_net_Net_Reach : Nat := 25
abbrev fn_net_Net_take : Nat := 26
abbrev fn_slices_Clone_Message : Nat := 27
abbrev fn_slices_Clone_byte : Nat := 28
abbrev fn_errors_Is : Nat := 29
abbrev fn_tidewaterref32_Net_Send : Nat := 30
abbrev fn_tidewaterref32_Net_Deliver : Nat := 31
abbrev fn_tidewaterref32_Net_Drop : Nat := 32
abbrev fn_tidewaterref32_Net_Double : Nat := 33
abbrev fn_net_Net_Part : Nat := 34
abbrev fn_tidewaternum_In : Nat := 35
abbrev fn_tidewaterref32_Net_First : Nat := 36
abbrev fn_tidewaterref32_Net_Reach : Nat := 37
abbrev fn_slices_IndexFunc_Message : Nat := 38
abbrev fn_net_Net_First_1 : Nat := 39
abbrev fn_math_bits_Mul : Nat := 40
abbrev fn_net_Net_find_1 : Nat := 41
abbrev fn_slices_Delete_Message : Nat := 42
abbrev fn_errors_is : Nat := 44
abbrev fn_tidewaterref32_Net_has : Nat := 45
abbrev fn_tidewaterref32_Net_many : Nat := 46
abbrev fn_tidewaterref32_Net_Waits : Nat := 47
abbrev fn_slices_Contains_int : Nat := 48
abbrev fn_math_bits_Mul32 : Nat := 49
abbrev fn_math_bits_Mul64 : Nat := 50
abbrev fn_slices_Index_int : Nat := 51
abbrev fn_errors_New : Nat := 82
abbrev gl_ErrRange : Nat := 0
abbrev gl_ErrLong : Nat := 1
abbrev gl_ErrDown : Nat := 2
abbrev gl_ErrNone : Nat := 3
abbrev gl_ErrShort : Nat := 4
abbrev gl_ErrForm : Nat := 5
abbrev gl_ErrSum : Nat := 6
abbrev gl_ErrRune : Nat := 7
abbrev gl_ErrName : Nat := 8
abbrev gl_ErrSealed : Nat := 9
abbrev gl_ErrWritten : Nat := 10
abbrev gl_ErrUnwritten : Nat := 11
abbrev gl_ErrTrimmed : Nat := 12
abbrev gl_ErrFull : Nat := 13
abbrev gl_ErrEpoch : Nat := 14
abbrev gl_ErrMoved : Nat := 15
abbrev gl_ErrState : Nat := 16
abbrev gl_ErrClash : Nat := 17
abbrev gl_ErrStale : Nat := 18
abbrev tyErr : Nat := 107
abbrev ty_abi_BoundsErrorCode : Nat := 6
abbrev ty_runtime_boundsError : Nat := 8
abbrev ty_runtime_errorString : Nat := 10
abbrev ty_runtime_plainError : Nat := 11
abbrev ty_runtime_errorAddressString : Nat := 14
abbrev ty_maps_unhashableTypeError : Nat := 19
abbrev ty_tidewaterlaw32_Act : Nat := 34
abbrev ty_net_Message : Nat := 38
abbrev ty_net_node : Nat := 57
abbrev ty_net_Net : Nat := 59
abbrev ty_tidewaterref32_Net : Nat := 71
abbrev ty_tidewaterref32_Message : Nat := 75
abbrev ty_reflectlite_Type : Nat := 86
abbrev ty_reflectlite_rtype : Nat := 97
abbrev ty_runtime_TypeAssertionError : Nat := 110
abbrev ty_runtime_PanicNilError : Nat := 113
abbrev ty_abi_TFlag : Nat := 114
abbrev ty_abi_Kind : Nat := 115
abbrev ty_abi_NameOff : Nat := 118
abbrev ty_abi_TypeOff : Nat := 119
abbrev ty_abi_Type : Nat := 121
abbrev ty_reflectlite_ValueError : Nat := 129
abbrev ty_errors_errorString : Nat := 131
abbrev ty_unsafe_Pointer : Nat := 132
abbrev ty_abi_UncommonType : Nat := 137
abbrev ty_abi_TextOff : Nat := 139
abbrev ty_abi_Method : Nat := 141
end Go.D
