/-
  WHAT IS PROVED: the calls and globals of this program. No further conditions.
-/
import Derived.Test.YtbeciidagekppaaGreatDoorMem
import Derived.Test.YtbeciidagekppaaGreatDoorProg
import Derived.KernelRfl
set_option linter.unusedSimpArgs false
set_option maxRecDepth 100000
set_option linter.unusedVariables false
namespace Go.D
open Go Go.Proofs
def callL : List Nat := [2, 3, 4, 5, 6, 7, 8, 9, 10, 11, 12, 13, 14, 15, 16, 17, 18, 19, 20, 21, 22, 23, 24, 25, 26, 27, 28, 29, 30, 31, 32, 33, 34, 35, 36, 37, 38, 39, 40, 41, 42, 43, 44, 45, 46, 47, 48, 49, 50, 51, 52, 53, 54, 55, 56, 57, 58, 59, 60, 61, 62, 63, 64, 65, 66, 67, 68, 69, 70, 71, 72, 73, 74, 75, 76, 78, 79, 80, 81, 82, 83, 84, 85, 86, 87, 88, 89, 90, 91, 92, 93, 94, 95, 96, 97, 98, 99, 100, 101, 102, 103, 104, 105, 106, 107, 108, 109, 110, 143, 165]
def callB (f : Nat) : Bool := callL.contains f
theorem callL_ok : ∀ f ∈ callL, ∀ (args : Array Value) (w : World), (callFunc f args).run Tryz.prog w = .ok (.enter f args) w := by
  simp only [callL, List.forall_mem_cons]
  exact ⟨Tryz.call2, Tryz.call3, Tryz.call4, Tryz.call5, Tryz.call6, Tryz.call7, Tryz.call8, Tryz.call9, Tryz.call10, Tryz.call11, Tryz.call12, Tryz.call13, Tryz.call14, Tryz.call15, Tryz.call16, Tryz.call17, Tryz.call18, Tryz.call19, Tryz.call20, Tryz.call21, Tryz.call22, Tryz.call23, Tryz.call24, Tryz.call25, Tryz.call26, Tryz.call27, Tryz.call28, Tryz.call29, Tryz.call30, Tryz.call31, Tryz.call32, Tryz.call33, Tryz.call34, Tryz.call35, Tryz.call36, Tryz.call37, Tryz.call38, Tryz.call39, Tryz.call40, Tryz.call41, Tryz.call42, Tryz.call43, Tryz.call44, Tryz.call45, Tryz.call46, Tryz.call47, Tryz.call48, Tryz.call49, Tryz.call50, Tryz.call51, Tryz.call52, Tryz.call53, Tryz.call54, Tryz.call55, Tryz.call56, Tryz.call57, Tryz.call58, Tryz.call59, Tryz.call60, Tryz.call61, Tryz.call62, Tryz.call63, Tryz.call64, Tryz.call65, Tryz.call66, Tryz.call67, Tryz.call68, Tryz.call69, Tryz.call70, Tryz.call71, Tryz.call72, Tryz.call73, Tryz.call74, Tryz.call75, Tryz.call76, Tryz.call78, Tryz.call79, Tryz.call80, Tryz.call81, Tryz.call82, Tryz.call83, Tryz.call84, Tryz.call85, Tryz.call86, Tryz.call87, Tryz.call88, Tryz.call89, Tryz.call90, Tryz.call91, Tryz.call92, Tryz.call93, Tryz.call94, Tryz.call95, Tryz.call96, Tryz.call97, Tryz.call98, Tryz.call99, Tryz.call100, Tryz.call101, Tryz.call102, Tryz.call103, Tryz.call104, Tryz.call105, Tryz.call106, Tryz.call107, Tryz.call108, Tryz.call109, Tryz.call110, Tryz.call143, Tryz.call165, by simp⟩
theorem callB_ok : Callable Tryz.prog callB := fun f args w h => callL_ok f (by simpa [callB] using h) args w
theorem mixed : Tryz.prog.follows .mixedOrders = true := by kernel_rfl

abbrev fn_tidewaterlaw09_UnitPlays : Nat := 3
abbrev fn_tidewaterlaw09_UnitPower : Nat := 4
abbrev fn_tidewaterlaw09_alive : Nat := 5
abbrev fn_tidewaterlaw09_begin : Nat := 6
abbrev fn_tidewaterlaw09_do : Nat := 7
abbrev fn_tidewaterlaw09_same : Nat := 8
abbrev fn_unit_Open : Nat := 9
abbrev fn_tidewaterref09_Unit_Copy : Nat := 10
abbrev fn_disk_Device_Stop : Nat := 11
abbrev fn_unit_Unit_Write : Nat := 12
abbrev fn_tidewaterlaw09_Act_page : Nat := 13
abbrev fn_tidewaterref09_Unit_Write : Nat := 14
abbrev fn_unit_Unit_Trim : Nat := 15
abbrev fn_tidewaterref09_Unit_Trim : Nat := 16
abbrev fn_unit_Unit_Seal : Nat := 17
abbrev fn_tidewaterref09_Unit_Seal : Nat := 18
abbrev fn_disk_Device_Crash : Nat := 19
abbrev fn_tidewaterlaw09_told : Nat := 20
abbrev fn_tidewaternum_Num : Nat := 21
abbrev fn_disk_New : Nat := 22
abbrev fn_unit_Unit_Tail : Nat := 23
abbrev fn_tidewaterref09_New : Nat := 24
abbrev fn_unit_Unit_Read : Nat := 25
abbrev fn_tidewaterref09_Unit_Read : Nat := 26
abbrev fn_unit_Unit_Epoch : Nat := 27
abbrev fn_unit_Unit_Trimmed : Nat := 28
abbrev fn_tidewaterref09_Unit_Tail : Nat := 29
abbrev fn_unit_Unit_Free : Nat := 30
abbrev fn_unit_Unit_Has : Nat := 31
abbrev fn_tidewaterref09_Unit_Has : Nat := 32
abbrev fn_segs_Open : Nat := 33
abbrev fn_segs_Store_Segments : Nat := 34
abbrev fn_segs_Store_Records : Nat := 35
abbrev fn_unit_Unit_tell : Nat := 36
abbrev fn_unit_Unit_forget : Nat := 37
abbrev fn_tidewaterref08_Store_Copy : Nat := 38
abbrev fn_unit_Unit_check : Nat := 39
abbrev fn_unit_Unit_record : Nat := 40
abbrev fn_unit_Unit_take : Nat := 41
abbrev fn_slices_Clone_byte : Nat := 42
abbrev fn_tidewaterref09_Unit_check : Nat := 43
abbrev fn_tidewaterref08_Store_Append : Nat := 44
abbrev fn_tidewaterref09_row : Nat := 45
abbrev fn_tidewaterref04_Num : Nat := 46
abbrev fn_tidewaterref04_Text : Nat := 47
abbrev fn_unit_Unit_reclaim : Nat := 48
abbrev fn_tidewaterref08_Store_Drop : Nat := 49
abbrev fn_disk_Device_do : Nat := 50
abbrev fn_errors_Is : Nat := 51
abbrev fn_tidewaterref09_Unit_find : Nat := 52
abbrev fn_segs_Store_Free : Nat := 53
abbrev fn_segs_Store_many : Nat := 54
abbrev fn_segs_Store_sector : Nat := 55
abbrev fn_segs_Store_read : Nat := 56
abbrev fn_segs_number : Nat := 57
abbrev fn_slices_SortStableFunc_segment : Nat := 58
abbrev fn_segs_Open_1 : Nat := 59
abbrev fn_cmp_Compare_int : Nat := 60
abbrev fn_segs_Store_find : Nat := 61
abbrev fn_pack_Read : Nat := 62
abbrev fn_pack_In_Num : Nat := 63
abbrev fn_pack_In_Text : Nat := 64
abbrev fn_pack_In_End : Nat := 65
abbrev fn_pack_Out_Num : Nat := 66
abbrev fn_pack_Out_Text : Nat := 67
abbrev fn_pack_Out_Done : Nat := 68
abbrev fn_segs_Store_Append : Nat := 69
abbrev fn_tidewaterref08_Store_Fits : Nat := 70
abbrev fn_tidewaterref08_Store_Take : Nat := 71
abbrev fn_tidewaterref08_need : Nat := 72
abbrev fn_segs_Store_Last : Nat := 73
abbrev fn_slices_ContainsFunc_int : Nat := 74
abbrev fn_unit_Unit_reclaim_1 : Nat := 75
abbrev fn_segs_Store_Drop : Nat := 76
abbrev fn_errors_is : Nat := 78
abbrev fn_disk_Device_Len : Nat := 79
abbrev fn_disk_Device_Read : Nat := 80
abbrev fn_segs_Store_record : Nat := 81
abbrev fn_slices_stableCmpFunc_segment : Nat := 82
abbrev fn_cmp_isNaN_int : Nat := 83
abbrev fn_slices_IndexFunc_segment : Nat := 84
abbrev fn_segs_Store_find_1 : Nat := 85
abbrev fn_pack_In_raw : Nat := 86
abbrev fn_pack_In_fail : Nat := 87
abbrev fn_pack_Out_fail : Nat := 88
abbrev fn_segs_sectors : Nat := 89
abbrev fn_segs_Store_take : Nat := 90
abbrev fn_slices_Chunk_byte : Nat := 91
abbrev fn_segs_Store_write : Nat := 92
abbrev fn_disk_Device_Flush : Nat := 93
abbrev fn_segs_Store_sure : Nat := 94
abbrev fn_segs_head : Nat := 95
abbrev fn_slices_IndexFunc_int : Nat := 96
abbrev fn_slices_Delete_segment : Nat := 97
abbrev fn_disk_Device_has : Nat := 98
abbrev fn_slices_Backward_write : Nat := 99
abbrev fn_slices_insertionSortCmpFunc_segment : Nat := 100
abbrev fn_slices_symMergeCmpFunc_segment : Nat := 101
abbrev fn_segs_Store_free : Nat := 102
abbrev fn_slices_Chunk_byte_1 : Nat := 103
abbrev fn_disk_Device_Write : Nat := 104
abbrev fn_disk_Device_down : Nat := 105
abbrev fn_slices_Backward_write_1 : Nat := 106
abbrev fn_slices_rotateCmpFunc_segment : Nat := 107
abbrev fn_slices_ContainsFunc_segment : Nat := 108
abbrev fn_segs_Store_free_1 : Nat := 109
abbrev fn_slices_swapRangeCmpFunc_segment : Nat := 110
abbrev fn_errors_New : Nat := 143
abbrev gl_ErrLong : Nat := 0
abbrev gl_ErrTrimmed : Nat := 1
abbrev gl_ErrWritten : Nat := 2
abbrev gl_ErrEpoch : Nat := 3
abbrev gl_ErrSealed : Nat := 4
abbrev gl_ErrRange : Nat := 5
abbrev gl_ErrShort : Nat := 6
abbrev gl_ErrForm : Nat := 7
abbrev gl_ErrSum : Nat := 8
abbrev gl_ErrRune : Nat := 9
abbrev gl_ErrName : Nat := 10
abbrev gl_ErrUnwritten : Nat := 11
abbrev gl_ErrDown : Nat := 12
abbrev gl_ErrFull : Nat := 13
abbrev gl_ErrMoved : Nat := 14
abbrev gl_ErrNone : Nat := 15
abbrev gl_ErrState : Nat := 16
abbrev gl_ErrClash : Nat := 17
abbrev gl_ErrStale : Nat := 18
abbrev tyErr : Nat := 167
abbrev ty_abi_BoundsErrorCode : Nat := 6
abbrev ty_runtime_boundsError : Nat := 8
abbrev ty_runtime_errorString : Nat := 10
abbrev ty_runtime_plainError : Nat := 11
abbrev ty_runtime_errorAddressString : Nat := 14
abbrev ty_maps_unhashableTypeError : Nat := 19
abbrev ty_tidewaterlaw09_Act : Nat := 30
abbrev ty_tidewaterlaw09_Loss : Nat := 41
abbrev ty_tidewaterref09_Unit : Nat := 70
abbrev ty_tidewaterref08_Store : Nat := 73
abbrev ty_unit_Unit : Nat := 81
abbrev ty_disk_Device : Nat := 88
abbrev ty_tidewaterref08_Segment : Nat := 101
abbrev ty_disk_write : Nat := 104
abbrev ty_segs_Store : Nat := 110
abbrev ty_segs_segment : Nat := 117
abbrev ty_pack_Out : Nat := 124
abbrev ty_reflectlite_Type : Nat := 134
abbrev ty_pack_In : Nat := 143
abbrev ty_reflectlite_rtype : Nat := 152
abbrev ty_runtime_TypeAssertionError : Nat := 170
abbrev ty_runtime_PanicNilError : Nat := 173
abbrev ty_abi_TFlag : Nat := 175
abbrev ty_abi_Kind : Nat := 176
abbrev ty_abi_NameOff : Nat := 179
abbrev ty_abi_TypeOff : Nat := 180
abbrev ty_abi_Type : Nat := 182
abbrev ty_reflectlite_ValueError : Nat := 190
abbrev ty_errors_errorString : Nat := 192
abbrev ty_unsafe_Pointer : Nat := 193
abbrev ty_abi_UncommonType : Nat := 198
abbrev ty_abi_TextOff : Nat := 200
abbrev ty_abi_Method : Nat := 202
end Go.D
