/-
  WHAT IS PROVED: the calls and globals of this program. No further conditions.
-/
import Derived.Test.YtmfdpgjnmdlajaaDoorMem
import Derived.Test.YtmfdpgjnmdlajaaDoorProg
import Derived.KernelRfl
set_option linter.unusedSimpArgs false
set_option maxRecDepth 100000
set_option linter.unusedVariables false
namespace Go.D
open Go Go.Proofs
def callL : List Nat := [2, 3, 4, 5, 6, 7, 8, 9, 10, 11, 12, 13, 14, 15, 16, 17, 18, 19, 20, 21, 22, 23, 24, 25, 26, 27, 28, 30, 62, 84]
def callB (f : Nat) : Bool := callL.contains f
theorem callL_ok : ∀ f ∈ callL, ∀ (args : Array Value) (w : World), (callFunc f args).run Tryd.prog w = .ok (.enter f args) w := by
  simp only [callL, List.forall_mem_cons]
  exact ⟨Tryd.call2, Tryd.call3, Tryd.call4, Tryd.call5, Tryd.call6, Tryd.call7, Tryd.call8, Tryd.call9, Tryd.call10, Tryd.call11, Tryd.call12, Tryd.call13, Tryd.call14, Tryd.call15, Tryd.call16, Tryd.call17, Tryd.call18, Tryd.call19, Tryd.call20, Tryd.call21, Tryd.call22, Tryd.call23, Tryd.call24, Tryd.call25, Tryd.call26, Tryd.call27, Tryd.call28, Tryd.call30, Tryd.call62, Tryd.call84, by simp⟩
theorem callB_ok : Callable Tryd.prog callB := fun f args w h => callL_ok f (by simpa [callB] using h) args w
theorem mixed : Tryd.prog.follows .mixedOrders = true := by kernel_rfl

abbrev fn_tidewaterlaw35_OrderFinds : Nat := 3
abbrev fn_tidewaterlaw35_OrderLimits : Nat := 4
abbrev fn_tidewaterlaw35_OrderChecks : Nat := 5
abbrev fn_tidewaterlaw35_OrderSeen : Nat := 6
abbrev fn_tidewaterlaw35_alive : Nat := 7
abbrev fn_tidewaterlaw35_of : Nat := 8
abbrev fn_order_Find : Nat := 9
abbrev fn_tidewaterref35_Right : Nat := 10
abbrev fn_tidewaternum_Num : Nat := 11
abbrev fn_order_Most : Nat := 12
abbrev fn_tidewaterref35_Find : Nat := 13
abbrev fn_tidewaternum_SameInts : Nat := 14
abbrev fn_order_Check : Nat := 15
abbrev fn_tidewaterref35_Stands : Nat := 16
abbrev fn_slices_ContainsFunc_Event : Nat := 17
abbrev fn_order_Find_1 : Nat := 18
abbrev fn_order_Event_right : Nat := 19
abbrev fn_order_search_goOn : Nat := 20
abbrev fn_errors_Is : Nat := 21
abbrev fn_slices_IndexFunc_Event : Nat := 22
abbrev fn_order_Most_1 : Nat := 23
abbrev fn_tidewaterref35_Next : Nat := 24
abbrev fn_order_Event_do : Nat := 25
abbrev fn_tidewaternum_In : Nat := 26
abbrev fn_order_search_may : Nat := 27
abbrev fn_maps_Clone_string : Nat := 28
abbrev fn_errors_is : Nat := 30
abbrev fn_errors_New : Nat := 62
abbrev gl_ErrLong : Nat := 0
abbrev gl_ErrForm : Nat := 1
abbrev gl_ErrClash : Nat := 2
abbrev gl_ErrRange : Nat := 3
abbrev gl_ErrShort : Nat := 4
abbrev gl_ErrSum : Nat := 5
abbrev gl_ErrRune : Nat := 6
abbrev gl_ErrName : Nat := 7
abbrev gl_ErrSealed : Nat := 8
abbrev gl_ErrWritten : Nat := 9
abbrev gl_ErrUnwritten : Nat := 10
abbrev gl_ErrTrimmed : Nat := 11
abbrev gl_ErrDown : Nat := 12
abbrev gl_ErrFull : Nat := 13
abbrev gl_ErrEpoch : Nat := 14
abbrev gl_ErrMoved : Nat := 15
abbrev gl_ErrNone : Nat := 16
abbrev gl_ErrState : Nat := 17
abbrev gl_ErrStale : Nat := 18
abbrev tyErr : Nat := 79
abbrev ty_abi_BoundsErrorCode : Nat := 6
abbrev ty_runtime_boundsError : Nat := 8
abbrev ty_runtime_errorString : Nat := 10
abbrev ty_runtime_plainError : Nat := 11
abbrev ty_runtime_errorAddressString : Nat := 14
abbrev ty_maps_unhashableTypeError : Nat := 19
abbrev ty_tidewaterref35_Event : Nat := 33
abbrev ty_order_Event : Nat := 42
abbrev ty_order_search : Nat := 53
abbrev ty_tidewaterref35_pair : Nat := 62
abbrev ty_reflectlite_Type : Nat := 65
abbrev ty_reflectlite_rtype : Nat := 70
abbrev ty_runtime_TypeAssertionError : Nat := 82
abbrev ty_runtime_PanicNilError : Nat := 85
abbrev ty_abi_TFlag : Nat := 88
abbrev ty_abi_Kind : Nat := 89
abbrev ty_abi_NameOff : Nat := 92
abbrev ty_abi_TypeOff : Nat := 93
abbrev ty_abi_Type : Nat := 95
abbrev ty_reflectlite_ValueError : Nat := 103
abbrev ty_errors_errorString : Nat := 105
abbrev ty_unsafe_Pointer : Nat := 106
abbrev ty_abi_UncommonType : Nat := 111
abbrev ty_abi_TextOff : Nat := 113
abbrev ty_abi_Method : Nat := 115
end Go.D
