/-
  WHAT IS PROVED: the calls and globals of this program. No further conditions.
-/
import Derived.Test.YtbeciidagekppaaDoorMem
import Derived.Test.YtbeciidagekppaaDoorProg
import Derived.KernelRfl
set_option linter.unusedSimpArgs false
set_option maxRecDepth 100000
set_option linter.unusedVariables false
namespace Go.D
open Go Go.Proofs
def callL : List Nat := [2, 3, 4, 5, 6, 7, 8, 9, 10, 11, 12, 13, 14, 15, 16, 17, 18, 19, 20, 21, 22, 23, 24, 25, 26, 27, 28, 29, 30, 31, 32, 33, 34, 35, 36, 37, 38, 39, 40, 41, 42, 43, 44, 45, 46, 47, 49, 50, 51, 52, 53, 54, 55, 56, 57, 58, 59, 60, 61, 62, 63, 64, 65, 66, 67, 68, 69, 70, 71, 72, 73, 74, 75, 76, 77, 78, 79, 80, 81, 82, 118, 140]
def callB (f : Nat) : Bool := callL.contains f
theorem callL_ok : ∀ f ∈ callL, ∀ (args : Array Value) (w : World), (callFunc f args).run Tryd.prog w = .ok (.enter f args) w := by
  simp only [callL, List.forall_mem_cons]
  exact ⟨Tryd.call2, Tryd.call3, Tryd.call4, Tryd.call5, Tryd.call6, Tryd.call7, Tryd.call8, Tryd.call9, Tryd.call10, Tryd.call11, Tryd.call12, Tryd.call13, Tryd.call14, Tryd.call15, Tryd.call16, Tryd.call17, Tryd.call18, Tryd.call19, Tryd.call20, Tryd.call21, Tryd.call22, Tryd.call23, Tryd.call24, Tryd.call25, Tryd.call26, Tryd.call27, Tryd.call28, Tryd.call29, Tryd.call30, Tryd.call31, Tryd.call32, Tryd.call33, Tryd.call34, Tryd.call35, Tryd.call36, Tryd.call37, Tryd.call38, Tryd.call39, Tryd.call40, Tryd.call41, Tryd.call42, Tryd.call43, Tryd.call44, Tryd.call45, Tryd.call46, Tryd.call47, Tryd.call49, Tryd.call50, Tryd.call51, Tryd.call52, Tryd.call53, Tryd.call54, Tryd.call55, Tryd.call56, Tryd.call57, Tryd.call58, Tryd.call59, Tryd.call60, Tryd.call61, Tryd.call62, Tryd.call63, Tryd.call64, Tryd.call65, Tryd.call66, Tryd.call67, Tryd.call68, Tryd.call69, Tryd.call70, Tryd.call71, Tryd.call72, Tryd.call73, Tryd.call74, Tryd.call75, Tryd.call76, Tryd.call77, Tryd.call78, Tryd.call79, Tryd.call80, Tryd.call81, Tryd.call82, Tryd.call118, Tryd.call140, by simp⟩
theorem callB_ok : Callable Tryd.prog callB := fun f args w h => callL_ok f (by simpa [callB] using h) args w
theorem mixed : Tryd.prog.follows .mixedOrders = true := by kernel_rfl

abbrev fn_tidewaterlaw09_UnitOnce : Nat := 3
abbrev fn_tidewaterlaw09_alive : Nat := 4
abbrev fn_tidewaterlaw09_begin : Nat := 5
abbrev fn_unit_Unit_Epoch : Nat := 6
abbrev fn_unit_Unit_Write : Nat := 7
abbrev fn_tidewaterlaw09_Act_page : Nat := 8
abbrev fn_unit_Unit_Trim : Nat := 9
abbrev fn_unit_Unit_Seal : Nat := 10
abbrev fn_unit_Open : Nat := 11
abbrev fn_unit_Unit_Tail : Nat := 12
abbrev fn_unit_Unit_Read : Nat := 13
abbrev fn_tidewaternum_Num : Nat := 14
abbrev fn_disk_New : Nat := 15
abbrev fn_tidewaterref09_New : Nat := 16
abbrev fn_unit_Unit_check : Nat := 17
abbrev fn_unit_Unit_record : Nat := 18
abbrev fn_unit_Unit_take : Nat := 19
abbrev fn_slices_Clone_byte : Nat := 20
abbrev fn_unit_Unit_forget : Nat := 21
abbrev fn_unit_Unit_reclaim : Nat := 22
abbrev fn_segs_Open : Nat := 23
abbrev fn_segs_Store_Segments : Nat := 24
abbrev fn_segs_Store_Records : Nat := 25
abbrev fn_unit_Unit_tell : Nat := 26
abbrev fn_errors_Is : Nat := 27
abbrev fn_pack_Out_Num : Nat := 28
abbrev fn_pack_Out_Text : Nat := 29
abbrev fn_pack_Out_Done : Nat := 30
abbrev fn_segs_Store_Append : Nat := 31
abbrev fn_segs_Store_Last : Nat := 32
abbrev fn_slices_ContainsFunc_int : Nat := 33
abbrev fn_unit_Unit_reclaim_1 : Nat := 34
abbrev fn_segs_Store_Drop : Nat := 35
abbrev fn_segs_Store_many : Nat := 36
abbrev fn_segs_Store_sector : Nat := 37
abbrev fn_segs_Store_read : Nat := 38
abbrev fn_segs_number : Nat := 39
abbrev fn_slices_SortStableFunc_segment : Nat := 40
abbrev fn_segs_Open_1 : Nat := 41
abbrev fn_cmp_Compare_int : Nat := 42
abbrev fn_segs_Store_find : Nat := 43
abbrev fn_pack_Read : Nat := 44
abbrev fn_pack_In_Num : Nat := 45
abbrev fn_pack_In_Text : Nat := 46
abbrev fn_pack_In_End : Nat := 47
abbrev fn_errors_is : Nat := 49
abbrev fn_pack_Out_fail : Nat := 50
abbrev fn_segs_sectors : Nat := 51
abbrev fn_segs_Store_take : Nat := 52
abbrev fn_slices_Chunk_byte : Nat := 53
abbrev fn_segs_Store_write : Nat := 54
abbrev fn_disk_Device_Flush : Nat := 55
abbrev fn_segs_Store_sure : Nat := 56
abbrev fn_segs_head : Nat := 57
abbrev fn_slices_IndexFunc_int : Nat := 58
abbrev fn_slices_Delete_segment : Nat := 59
abbrev fn_disk_Device_Len : Nat := 60
abbrev fn_disk_Device_Read : Nat := 61
abbrev fn_segs_Store_record : Nat := 62
abbrev fn_slices_stableCmpFunc_segment : Nat := 63
abbrev fn_cmp_isNaN_int : Nat := 64
abbrev fn_slices_IndexFunc_segment : Nat := 65
abbrev fn_segs_Store_find_1 : Nat := 66
abbrev fn_pack_In_raw : Nat := 67
abbrev fn_pack_In_fail : Nat := 68
abbrev fn_segs_Store_free : Nat := 69
abbrev fn_slices_Chunk_byte_1 : Nat := 70
abbrev fn_disk_Device_Write : Nat := 71
abbrev fn_disk_Device_down : Nat := 72
abbrev fn_disk_Device_do : Nat := 73
abbrev fn_disk_Device_has : Nat := 74
abbrev fn_slices_Backward_write : Nat := 75
abbrev fn_slices_insertionSortCmpFunc_segment : Nat := 76
abbrev fn_slices_symMergeCmpFunc_segment : Nat := 77
abbrev fn_slices_ContainsFunc_segment : Nat := 78
abbrev fn_segs_Store_free_1 : Nat := 79
abbrev fn_slices_Backward_write_1 : Nat := 80
abbrev fn_slices_rotateCmpFunc_segment : Nat := 81
abbrev fn_slices_swapRangeCmpFunc_segment : Nat := 82
abbrev fn_errors_New : Nat := 118
abbrev gl_ErrLong : Nat := 0
abbrev gl_ErrTrimmed : Nat := 1
abbrev gl_ErrWritten : Nat := 2
abbrev gl_ErrEpoch : Nat := 3
abbrev gl_ErrSealed : Nat := 4
abbrev gl_ErrUnwritten : Nat := 5
abbrev gl_ErrRange : Nat := 6
abbrev gl_ErrShort : Nat := 7
abbrev gl_ErrForm : Nat := 8
abbrev gl_ErrSum : Nat := 9
abbrev gl_ErrRune : Nat := 10
abbrev gl_ErrName : Nat := 11
abbrev gl_ErrDown : Nat := 12
abbrev gl_ErrFull : Nat := 13
abbrev gl_ErrMoved : Nat := 14
abbrev gl_ErrNone : Nat := 15
abbrev gl_ErrState : Nat := 16
abbrev gl_ErrClash : Nat := 17
abbrev gl_ErrStale : Nat := 18
abbrev tyErr : Nat := 143
abbrev ty_abi_BoundsErrorCode : Nat := 6
abbrev ty_runtime_boundsError : Nat := 8
abbrev ty_runtime_errorString : Nat := 10
abbrev ty_runtime_plainError : Nat := 11
abbrev ty_runtime_errorAddressString : Nat := 14
abbrev ty_maps_unhashableTypeError : Nat := 19
abbrev ty_tidewaterlaw09_Act : Nat := 31
abbrev ty_unit_Unit : Nat := 54
abbrev ty_disk_Device : Nat := 72
abbrev ty_tidewaterref08_Store : Nat := 76
abbrev ty_tidewaterref09_Unit : Nat := 78
abbrev ty_pack_Out : Nat := 81
abbrev ty_segs_Store : Nat := 91
abbrev ty_segs_segment : Nat := 99
abbrev ty_reflectlite_Type : Nat := 106
abbrev ty_pack_In : Nat := 122
abbrev ty_reflectlite_rtype : Nat := 124
abbrev ty_disk_write : Nat := 134
abbrev ty_runtime_TypeAssertionError : Nat := 146
abbrev ty_runtime_PanicNilError : Nat := 149
abbrev ty_abi_TFlag : Nat := 151
abbrev ty_abi_Kind : Nat := 152
abbrev ty_abi_NameOff : Nat := 155
abbrev ty_abi_TypeOff : Nat := 156
abbrev ty_abi_Type : Nat := 158
abbrev ty_tidewaterref08_Segment : Nat := 160
abbrev ty_reflectlite_ValueError : Nat := 168
abbrev ty_errors_errorString : Nat := 170
abbrev ty_unsafe_Pointer : Nat := 171
abbrev ty_abi_UncommonType : Nat := 176
abbrev ty_abi_TextOff : Nat := 178
abbrev ty_abi_Method : Nat := 180
end Go.D
