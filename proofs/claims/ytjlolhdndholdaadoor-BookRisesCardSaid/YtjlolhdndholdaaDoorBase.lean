/-
  WHAT IS PROVED: the calls and globals of this program. No further conditions.
-/
import Derived.Test.YtjlolhdndholdaaDoorMem
import Derived.Test.YtjlolhdndholdaaDoorProg
import Derived.KernelRfl
set_option linter.unusedSimpArgs false
set_option maxRecDepth 100000
set_option linter.unusedVariables false
namespace Go.D
open Go Go.Proofs
def callL : List Nat := [2, 3, 4, 5, 6, 7, 8, 9, 10, 11, 12, 13, 14, 15, 16, 17, 18, 19, 20, 21, 22, 23, 24, 25, 26, 27, 28, 29, 30, 31, 32, 33, 34, 35, 36, 37, 38, 39, 40, 41, 42, 43, 44, 45, 46, 47, 48, 49, 50, 51, 52, 53, 54, 56, 57, 58, 59, 60, 61, 62, 63, 64, 65, 66, 67, 68, 69, 70, 71, 72, 73, 74, 75, 76, 77, 78, 79, 80, 81, 82, 83, 84, 117, 139]
def callB (f : Nat) : Bool := callL.contains f
theorem callL_ok : ∀ f ∈ callL, ∀ (args : Array Value) (w : World), (callFunc f args).run Tryd.prog w = .ok (.enter f args) w := by
  simp only [callL, List.forall_mem_cons]
  exact ⟨Tryd.call2, Tryd.call3, Tryd.call4, Tryd.call5, Tryd.call6, Tryd.call7, Tryd.call8, Tryd.call9, Tryd.call10, Tryd.call11, Tryd.call12, Tryd.call13, Tryd.call14, Tryd.call15, Tryd.call16, Tryd.call17, Tryd.call18, Tryd.call19, Tryd.call20, Tryd.call21, Tryd.call22, Tryd.call23, Tryd.call24, Tryd.call25, Tryd.call26, Tryd.call27, Tryd.call28, Tryd.call29, Tryd.call30, Tryd.call31, Tryd.call32, Tryd.call33, Tryd.call34, Tryd.call35, Tryd.call36, Tryd.call37, Tryd.call38, Tryd.call39, Tryd.call40, Tryd.call41, Tryd.call42, Tryd.call43, Tryd.call44, Tryd.call45, Tryd.call46, Tryd.call47, Tryd.call48, Tryd.call49, Tryd.call50, Tryd.call51, Tryd.call52, Tryd.call53, Tryd.call54, Tryd.call56, Tryd.call57, Tryd.call58, Tryd.call59, Tryd.call60, Tryd.call61, Tryd.call62, Tryd.call63, Tryd.call64, Tryd.call65, Tryd.call66, Tryd.call67, Tryd.call68, Tryd.call69, Tryd.call70, Tryd.call71, Tryd.call72, Tryd.call73, Tryd.call74, Tryd.call75, Tryd.call76, Tryd.call77, Tryd.call78, Tryd.call79, Tryd.call80, Tryd.call81, Tryd.call82, Tryd.call83, Tryd.call84, Tryd.call117, Tryd.call139, by simp⟩
theorem callB_ok : Callable Tryd.prog callB := fun f args w h => callL_ok f (by simpa [callB] using h) args w
theorem mixed : Tryd.prog.follows .mixedOrders = true := by kernel_rfl

abbrev fn_tidewaterlaw12_BookHalf : Nat := 3
abbrev fn_tidewaterlaw12_BookRises : Nat := 4
abbrev fn_tidewaterlaw12_alive : Nat := 5
abbrev fn_plan_Right : Nat := 6
abbrev fn_book_New : Nat := 7
abbrev fn_book_Book_Set : Nat := 8
abbrev fn_book_Book_Propose : Nat := 9
abbrev fn_book_Book_Up : Nat := 10
abbrev fn_book_Book_Known : Nat := 11
abbrev fn_plan_Same : Nat := 12
abbrev fn_book_Book_Latest : Nat := 13
abbrev fn_tidewaterlaw12_long : Nat := 14
abbrev fn_plan_Copy : Nat := 15
abbrev fn_tidewaterlaw12_among : Nat := 16
abbrev fn_book_Book_At : Nat := 17
abbrev fn_tidewaternum_Num : Nat := 18
abbrev fn_slices_ContainsFunc_Sint : Nat := 19
abbrev fn_plan_Right_1 : Nat := 20
abbrev fn_plan_chainRight : Nat := 21
abbrev fn_plan_all : Nat := 22
abbrev fn_slices_Compact_int : Nat := 23
abbrev fn_slices_Clone_int : Nat := 24
abbrev fn_book_Book_has : Nat := 25
abbrev fn_plan_Bytes : Nat := 26
abbrev fn_book_Book_latest : Nat := 27
abbrev fn_vote_New : Nat := 28
abbrev fn_book_seat_do : Nat := 29
abbrev fn_vote_Proposer_Promise : Nat := 30
abbrev fn_vote_Proposer_Asks : Nat := 31
abbrev fn_vote_Proposer_Accepted : Nat := 32
abbrev fn_vote_Proposer_Decided : Nat := 33
abbrev fn_plan_Read : Nat := 34
abbrev fn_slices_EqualFunc_Sint : Nat := 35
abbrev fn_plan_Same_1 : Nat := 36
abbrev fn_slices_Equal_int : Nat := 37
abbrev fn_errors_Is : Nat := 38
abbrev fn_slices_IndexFunc_Sint : Nat := 39
abbrev fn_slices_ContainsFunc_int : Nat := 40
abbrev fn_plan_chainRight_1 : Nat := 41
abbrev fn_slices_Concat_int : Nat := 42
abbrev fn_slices_Sort_int : Nat := 43
abbrev fn_pack_Out_Num : Nat := 44
abbrev fn_pack_Out_Nums : Nat := 45
abbrev fn_pack_Out_Done : Nat := 46
abbrev fn_vote_Voter_Accept : Nat := 47
abbrev fn_vote_Voter_Prepare : Nat := 48
abbrev fn_vote_Proposer_has : Nat := 49
abbrev fn_vote_Proposer_most : Nat := 50
abbrev fn_pack_Read : Nat := 51
abbrev fn_pack_In_Num : Nat := 52
abbrev fn_pack_In_Nums : Nat := 53
abbrev fn_pack_In_End : Nat := 54
abbrev fn_errors_is : Nat := 56
abbrev fn_slices_IndexFunc_int : Nat := 57
abbrev fn_slices_Grow_int : Nat := 58
abbrev fn_slices_pdqsortOrdered_int : Nat := 59
abbrev fn_math_bits_Len : Nat := 60
abbrev fn_pack_Out_fail : Nat := 61
abbrev fn_slices_Clone_byte : Nat := 62
abbrev fn_vote_Voter_look : Nat := 63
abbrev fn_vote_Voter_keep : Nat := 64
abbrev fn_pack_In_raw : Nat := 65
abbrev fn_pack_In_fail : Nat := 66
abbrev fn_slices_insertionSortOrdered_int : Nat := 67
abbrev fn_slices_heapSortOrdered_int : Nat := 68
abbrev fn_slices_breakPatternsOrdered_int : Nat := 69
abbrev fn_slices_choosePivotOrdered_int : Nat := 70
abbrev fn_slices_reverseRangeOrdered_int : Nat := 71
abbrev fn_slices_partialInsertionSortOrdered_int : Nat := 72
abbrev fn_cmp_Less_int : Nat := 73
abbrev fn_slices_partitionEqualOrdered_int : Nat := 74
abbrev fn_slices_partitionOrdered_int : Nat := 75
abbrev fn_math_bits_Len32 : Nat := 76
abbrev fn_math_bits_Len64 : Nat := 77
abbrev fn_slices_siftDownOrdered_int : Nat := 78
abbrev fn_slices_nextPowerOfTwo : Nat := 79
abbrev fn_slices_xorshift_Next : Nat := 80
abbrev fn_slices_medianAdjacentOrdered_int : Nat := 81
abbrev fn_slices_medianOrdered_int : Nat := 82
abbrev fn_cmp_isNaN_int : Nat := 83
abbrev fn_slices_order2Ordered_int : Nat := 84
abbrev fn_errors_New : Nat := 117
abbrev gl_ErrRange : Nat := 0
abbrev gl_ErrForm : Nat := 1
abbrev gl_ErrEpoch : Nat := 2
abbrev gl_ErrDown : Nat := 3
abbrev gl_ErrShort : Nat := 4
abbrev gl_ErrLong : Nat := 5
abbrev gl_ErrSum : Nat := 6
abbrev gl_ErrRune : Nat := 7
abbrev gl_ErrName : Nat := 8
abbrev gl_ErrSealed : Nat := 9
abbrev gl_ErrWritten : Nat := 10
abbrev gl_ErrUnwritten : Nat := 11
abbrev gl_ErrTrimmed : Nat := 12
abbrev gl_ErrFull : Nat := 13
abbrev gl_ErrMoved : Nat := 14
abbrev gl_ErrNone : Nat := 15
abbrev gl_ErrState : Nat := 16
abbrev gl_ErrClash : Nat := 17
abbrev gl_ErrStale : Nat := 18
abbrev tyErr : Nat := 156
abbrev ty_abi_BoundsErrorCode : Nat := 6
abbrev ty_runtime_boundsError : Nat := 8
abbrev ty_runtime_errorString : Nat := 10
abbrev ty_runtime_plainError : Nat := 11
abbrev ty_runtime_errorAddressString : Nat := 14
abbrev ty_maps_unhashableTypeError : Nat := 19
abbrev ty_plan_Plan : Nat := 27
abbrev ty_tidewaterlaw12_Act : Nat := 45
abbrev ty_book_Book : Nat := 57
abbrev ty_vote_Voter : Nat := 62
abbrev ty_book_seat : Nat := 65
abbrev ty_vote_Told : Nat := 74
abbrev ty_book_said : Nat := 78
abbrev ty_pack_Out : Nat := 94
abbrev ty_vote_Proposer : Nat := 99
abbrev ty_reflectlite_Type : Nat := 109
abbrev ty_vote_matter : Nat := 119
abbrev ty_pack_In : Nat := 122
abbrev ty_reflectlite_rtype : Nat := 124
abbrev ty_slices_sortedHint : Nat := 133
abbrev ty_slices_xorshift : Nat := 147
abbrev ty_runtime_TypeAssertionError : Nat := 159
abbrev ty_runtime_PanicNilError : Nat := 162
abbrev ty_abi_TFlag : Nat := 163
abbrev ty_abi_Kind : Nat := 164
abbrev ty_abi_NameOff : Nat := 167
abbrev ty_abi_TypeOff : Nat := 168
abbrev ty_abi_Type : Nat := 170
abbrev ty_reflectlite_ValueError : Nat := 178
abbrev ty_errors_errorString : Nat := 180
abbrev ty_unsafe_Pointer : Nat := 181
abbrev ty_abi_UncommonType : Nat := 186
abbrev ty_abi_TextOff : Nat := 188
abbrev ty_abi_Method : Nat := 190
end Go.D
