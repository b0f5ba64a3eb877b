/-
  WHAT IS PROVED: the calls and globals of this program. No further conditions.
-/
import Derived.Test.YtbkbipecfdfilaaDoorMem
import Derived.Test.YtbkbipecfdfilaaDoorProg
import Derived.KernelRfl
set_option linter.unusedSimpArgs false
set_option maxRecDepth 100000
set_option linter.unusedVariables false
namespace Go.D
open Go Go.Proofs
def callL : List Nat := [2, 3, 4, 5, 6, 7, 8, 9, 10, 11, 12, 13, 14, 15, 16, 17, 18, 19, 20, 21, 22, 23, 24, 25, 26, 27, 28, 29, 30, 31, 32, 33, 34, 37, 38, 39, 40, 41, 42, 43, 44, 45, 46, 47, 48, 49, 50, 51, 52, 53, 54, 55, 56, 57, 58, 59, 60, 61, 62, 63, 64, 65, 97, 119]
def callB (f : Nat) : Bool := callL.contains f
theorem callL_ok : ∀ f ∈ callL, ∀ (args : Array Value) (w : World), (callFunc f args).run Tryd.prog w = .ok (.enter f args) w := by
  simp only [callL, List.forall_mem_cons]
  exact ⟨Tryd.call2, Tryd.call3, Tryd.call4, Tryd.call5, Tryd.call6, Tryd.call7, Tryd.call8, Tryd.call9, Tryd.call10, Tryd.call11, Tryd.call12, Tryd.call13, Tryd.call14, Tryd.call15, Tryd.call16, Tryd.call17, Tryd.call18, Tryd.call19, Tryd.call20, Tryd.call21, Tryd.call22, Tryd.call23, Tryd.call24, Tryd.call25, Tryd.call26, Tryd.call27, Tryd.call28, Tryd.call29, Tryd.call30, Tryd.call31, Tryd.call32, Tryd.call33, Tryd.call34, Tryd.call37, Tryd.call38, Tryd.call39, Tryd.call40, Tryd.call41, Tryd.call42, Tryd.call43, Tryd.call44, Tryd.call45, Tryd.call46, Tryd.call47, Tryd.call48, Tryd.call49, Tryd.call50, Tryd.call51, Tryd.call52, Tryd.call53, Tryd.call54, Tryd.call55, Tryd.call56, Tryd.call57, Tryd.call58, Tryd.call59, Tryd.call60, Tryd.call61, Tryd.call62, Tryd.call63, Tryd.call64, Tryd.call65, Tryd.call97, Tryd.call119, by simp⟩
theorem callB_ok : Callable Tryd.prog callB := fun f args w h => callL_ok f (by simpa [callB] using h) args w
theorem mixed : Tryd.prog.follows .mixedOrders = true := by kernel_rfl

abbrev fn_tidewaterlaw22_DedupRises : Nat := 3
abbrev fn_tidewaterlaw22_DedupPlays : Nat := 4
abbrev fn_tidewaterlaw22_alive : Nat := 5
abbrev fn_dedup_New : Nat := 6
abbrev fn_dedup_Seen_Last : Nat := 7
abbrev fn_dedup_Seen_Join : Nat := 8
abbrev fn_dedup_Seen_Copy : Nat := 9
abbrev fn_dedup_Seen_Note : Nat := 10
abbrev fn_tidewaterref22_Seen_Join : Nat := 11
abbrev fn_tidewaterref22_Seen_Copy : Nat := 12
abbrev fn_tidewaternum_Num : Nat := 13
abbrev fn_tidewaterref22_Seen_Note : Nat := 14
abbrev fn_dedup_Seen_Ask : Nat := 15
abbrev fn_tidewaterref22_Seen_Ask : Nat := 16
abbrev fn_tidewaterlaw22_same : Nat := 17
abbrev fn_dedup_Seen_Bytes : Nat := 18
abbrev fn_tidewaterref22_Seen_Bytes : Nat := 19
abbrev fn_dedup_Read : Nat := 20
abbrev fn_dedup_Seen_rising : Nat := 21
abbrev fn_maps_Clone_last : Nat := 22
abbrev fn_dedup_right : Nat := 23
abbrev fn_errors_Is : Nat := 24
abbrev fn_tidewaterref22_Seen_last : Nat := 25
abbrev fn_pack_Out_Num : Nat := 26
abbrev fn_pack_Out_Done : Nat := 27
abbrev fn_tidewaterref04_Num : Nat := 28
abbrev fn_pack_Read : Nat := 29
abbrev fn_pack_In_Num : Nat := 30
abbrev fn_pack_In_End : Nat := 31
abbrev fn_dedup_Seen_rising_1 : Nat := 32
abbrev fn_slices_Sorted_int : Nat := 33
abbrev fn_maps_Keys_last : Nat := 34
abbrev fn_errors_is : Nat := 37
abbrev fn_pack_Out_fail : Nat := 38
abbrev fn_slices_Clone_byte : Nat := 39
abbrev fn_pack_In_raw : Nat := 40
abbrev fn_pack_In_fail : Nat := 41
abbrev fn_slices_Collect_int : Nat := 42
abbrev fn_slices_Sort_int : Nat := 43
abbrev fn_maps_Keys_last_1 : Nat := 44
abbrev fn_slices_AppendSeq_int : Nat := 45
abbrev fn_slices_pdqsortOrdered_int : Nat := 46
abbrev fn_math_bits_Len : Nat := 47
abbrev fn_slices_insertionSortOrdered_int : Nat := 48
abbrev fn_slices_heapSortOrdered_int : Nat := 49
abbrev fn_slices_breakPatternsOrdered_int : Nat := 50
abbrev fn_slices_choosePivotOrdered_int : Nat := 51
abbrev fn_slices_reverseRangeOrdered_int : Nat := 52
abbrev fn_slices_partialInsertionSortOrdered_int : Nat := 53
abbrev fn_cmp_Less_int : Nat := 54
abbrev fn_slices_partitionEqualOrdered_int : Nat := 55
abbrev fn_slices_partitionOrdered_int : Nat := 56
abbrev fn_math_bits_Len32 : Nat := 57
abbrev fn_math_bits_Len64 : Nat := 58
abbrev fn_slices_siftDownOrdered_int : Nat := 59
abbrev fn_slices_nextPowerOfTwo : Nat := 60
abbrev fn_slices_xorshift_Next : Nat := 61
abbrev fn_slices_medianAdjacentOrdered_int : Nat := 62
abbrev fn_slices_medianOrdered_int : Nat := 63
abbrev fn_cmp_isNaN_int : Nat := 64
abbrev fn_slices_order2Ordered_int : Nat := 65
abbrev fn_errors_New : Nat := 97
abbrev gl_ErrRange : Nat := 0
abbrev gl_ErrStale : Nat := 1
abbrev gl_ErrShort : Nat := 2
abbrev gl_ErrLong : Nat := 3
abbrev gl_ErrForm : Nat := 4
abbrev gl_ErrSum : Nat := 5
abbrev gl_ErrRune : Nat := 6
abbrev gl_ErrName : Nat := 7
abbrev gl_ErrSealed : Nat := 8
abbrev gl_ErrWritten : Nat := 9
abbrev gl_ErrUnwritten : Nat := 10
abbrev gl_ErrTrimmed : Nat := 11
abbrev gl_ErrDown : Nat := 12
abbrev gl_ErrFull : Nat := 13
abbrev gl_ErrEpoch : Nat := 14
abbrev gl_ErrMoved : Nat := 15
abbrev gl_ErrNone : Nat := 16
abbrev gl_ErrState : Nat := 17
abbrev gl_ErrClash : Nat := 18
abbrev tyErr : Nat := 132
abbrev ty_abi_BoundsErrorCode : Nat := 6
abbrev ty_runtime_boundsError : Nat := 8
abbrev ty_runtime_errorString : Nat := 10
abbrev ty_runtime_plainError : Nat := 11
abbrev ty_runtime_errorAddressString : Nat := 14
abbrev ty_maps_unhashableTypeError : Nat := 19
abbrev ty_api_Answer : Nat := 28
abbrev ty_tidewaterlaw22_Act : Nat := 30
abbrev ty_tidewaterref22_Seen : Nat := 42
abbrev ty_dedup_Seen : Nat := 60
abbrev ty_dedup_last : Nat := 62
abbrev ty_pack_Out : Nat := 74
abbrev ty_reflectlite_Type : Nat := 88
abbrev ty_pack_In : Nat := 94
abbrev ty_reflectlite_rtype : Nat := 99
abbrev ty_slices_sortedHint : Nat := 111
abbrev ty_slices_xorshift : Nat := 123
abbrev ty_runtime_TypeAssertionError : Nat := 135
abbrev ty_runtime_PanicNilError : Nat := 138
abbrev ty_abi_TFlag : Nat := 139
abbrev ty_abi_Kind : Nat := 140
abbrev ty_abi_NameOff : Nat := 143
abbrev ty_abi_TypeOff : Nat := 144
abbrev ty_abi_Type : Nat := 146
abbrev ty_reflectlite_ValueError : Nat := 154
abbrev ty_errors_errorString : Nat := 156
abbrev ty_unsafe_Pointer : Nat := 157
abbrev ty_abi_UncommonType : Nat := 162
abbrev ty_abi_TextOff : Nat := 164
abbrev ty_abi_Method : Nat := 166
end Go.D
