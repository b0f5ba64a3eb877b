/-
  WHAT IS PROVED: the calls and globals of this program. No further conditions.
-/
import Derived.Test.YtagajpoppiklnaaDoorMem
import Derived.Test.YtagajpoppiklnaaDoorProg
import Derived.KernelRfl
set_option linter.unusedSimpArgs false
set_option maxRecDepth 100000
set_option linter.unusedVariables false
namespace Go.D
open Go Go.Proofs
def callL : List Nat := [2, 3, 4, 5, 6, 7, 8, 9, 10, 11, 12, 13, 14, 15, 16, 17, 18, 19, 20, 21, 22, 23, 24, 25, 26, 27, 28, 29, 30, 31, 32, 33, 34, 35, 36, 37, 38, 39, 40, 41, 42, 43, 44, 45, 46, 47, 48, 49, 50, 51, 53, 54, 55, 56, 57, 74, 75, 76, 77, 78, 79, 80, 81, 82, 83, 84, 85, 86, 87, 88, 89, 90, 91, 92, 93, 94, 95, 96, 97, 98, 114, 136]
def callB (f : Nat) : Bool := callL.contains f
theorem callL_ok : ∀ f ∈ callL, ∀ (args : Array Value) (w : World), (callFunc f args).run Tryd.prog w = .ok (.enter f args) w := by
  simp only [callL, List.forall_mem_cons]
  exact ⟨Tryd.call2, Tryd.call3, Tryd.call4, Tryd.call5, Tryd.call6, Tryd.call7, Tryd.call8, Tryd.call9, Tryd.call10, Tryd.call11, Tryd.call12, Tryd.call13, Tryd.call14, Tryd.call15, Tryd.call16, Tryd.call17, Tryd.call18, Tryd.call19, Tryd.call20, Tryd.call21, Tryd.call22, Tryd.call23, Tryd.call24, Tryd.call25, Tryd.call26, Tryd.call27, Tryd.call28, Tryd.call29, Tryd.call30, Tryd.call31, Tryd.call32, Tryd.call33, Tryd.call34, Tryd.call35, Tryd.call36, Tryd.call37, Tryd.call38, Tryd.call39, Tryd.call40, Tryd.call41, Tryd.call42, Tryd.call43, Tryd.call44, Tryd.call45, Tryd.call46, Tryd.call47, Tryd.call48, Tryd.call49, Tryd.call50, Tryd.call51, Tryd.call53, Tryd.call54, Tryd.call55, Tryd.call56, Tryd.call57, Tryd.call74, Tryd.call75, Tryd.call76, Tryd.call77, Tryd.call78, Tryd.call79, Tryd.call80, Tryd.call81, Tryd.call82, Tryd.call83, Tryd.call84, Tryd.call85, Tryd.call86, Tryd.call87, Tryd.call88, Tryd.call89, Tryd.call90, Tryd.call91, Tryd.call92, Tryd.call93, Tryd.call94, Tryd.call95, Tryd.call96, Tryd.call97, Tryd.call98, Tryd.call114, Tryd.call136, by simp⟩
theorem callB_ok : Callable Tryd.prog callB := fun f args w h => callL_ok f (by simpa [callB] using h) args w
theorem mixed : Tryd.prog.follows .mixedOrders = true := by kernel_rfl

abbrev fn_tidewaterlaw06_PageJunk : Nat := 3
abbrev fn_tidewaterlaw06_PageWrites : Nat := 4
abbrev fn_tidewaterlaw06_alive : Nat := 5
abbrev fn_tidewaterlaw06_long : Nat := 6
abbrev fn_page_IsJunk : Nat := 7
abbrev fn_page_Read : Nat := 8
abbrev fn_page_Bytes : Nat := 9
abbrev fn_tidewaterref06_Bytes : Nat := 10
abbrev fn_tidewaternum_Num : Nat := 11
abbrev fn_tidewaterref05_Same : Nat := 12
abbrev fn_tidewaterref06_SameBacks : Nat := 13
abbrev fn_page_Backs : Nat := 14
abbrev fn_tidewaternum_SameInts : Nat := 15
abbrev fn_page_Junk : Nat := 16
abbrev fn_pack_Read : Nat := 17
abbrev fn_pack_In_Num : Nat := 18
abbrev fn_pack_In_Nums : Nat := 19
abbrev fn_pack_In_Text : Nat := 20
abbrev fn_pack_In_End : Nat := 21
abbrev fn_entry_Read : Nat := 22
abbrev fn_entry_Streams : Nat := 23
abbrev fn_slices_EqualFunc_Sint : Nat := 24
abbrev fn_page_Read_1 : Nat := 25
abbrev fn_page_falls : Nat := 26
abbrev fn_entry_Bytes : Nat := 27
abbrev fn_slices_EqualFunc_Back : Nat := 28
abbrev fn_page_Bytes_1 : Nat := 29
abbrev fn_pack_Out_Num : Nat := 30
abbrev fn_pack_Out_Nums : Nat := 31
abbrev fn_pack_Out_Text : Nat := 32
abbrev fn_pack_Out_Done : Nat := 33
abbrev fn_tidewaterref05_Right : Nat := 34
abbrev fn_tidewaterref05_Bytes : Nat := 35
abbrev fn_tidewaterref05_Streams : Nat := 36
abbrev fn_tidewaterref04_Num : Nat := 37
abbrev fn_tidewaterref06_falls : Nat := 38
abbrev fn_tidewaterref04_Nums : Nat := 39
abbrev fn_tidewaterref04_Text : Nat := 40
abbrev fn_errors_Is : Nat := 41
abbrev fn_slices_Clone_byte : Nat := 42
abbrev fn_pack_In_raw : Nat := 43
abbrev fn_pack_In_fail : Nat := 44
abbrev fn_entry_readWriting : Nat := 45
abbrev fn_entry_entry : Nat := 46
abbrev fn_entry_Right : Nat := 47
abbrev fn_entry_of : Nat := 48
abbrev fn_pack_Out_fail : Nat := 49
abbrev fn_tidewaterref05_upto : Nat := 50
abbrev fn_tidewaterref05_key : Nat := 51
abbrev fn_errors_is : Nat := 53
abbrev fn_entry_readOp : Nat := 54
abbrev fn_entry_clean : Nat := 55
abbrev fn_tidewaterref02_Key : Nat := 56
abbrev fn_tidewaterref02_Runes : Nat := 57
abbrev fn_entry_moving_right : Nat := 74
abbrev fn_entry_moving_streams : Nat := 75
abbrev fn_entry_moving_write : Nat := 76
abbrev fn_entry_shard : Nat := 77
abbrev fn_entry_within : Nat := 78
abbrev fn_entry_nums : Nat := 79
abbrev fn_entry_splitting_right : Nat := 80
abbrev fn_entry_splitting_streams : Nat := 81
abbrev fn_entry_splitting_write : Nat := 82
abbrev fn_runes_Key : Nat := 83
abbrev fn_runes_Count : Nat := 84
abbrev fn_runes_Right : Nat := 85
abbrev fn_entry_merging_right : Nat := 86
abbrev fn_entry_merging_streams : Nat := 87
abbrev fn_entry_merging_write : Nat := 88
abbrev fn_entry_checking_right : Nat := 89
abbrev fn_entry_checking_streams : Nat := 90
abbrev fn_entry_checking_write : Nat := 91
abbrev fn_entry_writing_right : Nat := 92
abbrev fn_entry_writing_streams : Nat := 93
abbrev fn_entry_writing_write : Nat := 94
abbrev fn_slices_ContainsFunc_Op : Nat := 95
abbrev fn_entry_writing_right_1 : Nat := 96
abbrev fn_entry_opRight : Nat := 97
abbrev fn_slices_IndexFunc_Op : Nat := 98
abbrev fn_errors_New : Nat := 114
abbrev gl_ErrLong : Nat := 0
abbrev gl_ErrForm : Nat := 1
abbrev gl_ErrRange : Nat := 2
abbrev gl_ErrShort : Nat := 3
abbrev gl_ErrSum : Nat := 4
abbrev gl_ErrRune : Nat := 5
abbrev gl_ErrName : Nat := 6
abbrev gl_ErrSealed : Nat := 7
abbrev gl_ErrWritten : Nat := 8
abbrev gl_ErrUnwritten : Nat := 9
abbrev gl_ErrTrimmed : Nat := 10
abbrev gl_ErrDown : Nat := 11
abbrev gl_ErrFull : Nat := 12
abbrev gl_ErrEpoch : Nat := 13
abbrev gl_ErrMoved : Nat := 14
abbrev gl_ErrNone : Nat := 15
abbrev gl_ErrState : Nat := 16
abbrev gl_ErrClash : Nat := 17
abbrev gl_ErrStale : Nat := 18
abbrev tyErr : Nat := 122
abbrev ty_abi_BoundsErrorCode : Nat := 6
abbrev ty_runtime_boundsError : Nat := 8
abbrev ty_runtime_errorString : Nat := 10
abbrev ty_runtime_plainError : Nat := 11
abbrev ty_runtime_errorAddressString : Nat := 14
abbrev ty_maps_unhashableTypeError : Nat := 19
abbrev ty_api_Entry : Nat := 25
abbrev ty_api_Back : Nat := 46
abbrev ty_api_Op : Nat := 50
abbrev ty_pack_Out : Nat := 69
abbrev ty_pack_In : Nat := 82
abbrev ty_entry_record : Nat := 85
abbrev ty_entry_moving : Nat := 88
abbrev ty_entry_splitting : Nat := 90
abbrev ty_entry_merging : Nat := 92
abbrev ty_entry_checking : Nat := 94
abbrev ty_reflectlite_Type : Nat := 104
abbrev ty_entry_writing : Nat := 108
abbrev ty_reflectlite_rtype : Nat := 113
abbrev ty_runtime_TypeAssertionError : Nat := 125
abbrev ty_runtime_PanicNilError : Nat := 128
abbrev ty_abi_TFlag : Nat := 130
abbrev ty_abi_Kind : Nat := 131
abbrev ty_abi_NameOff : Nat := 134
abbrev ty_abi_TypeOff : Nat := 135
abbrev ty_abi_Type : Nat := 137
abbrev ty_reflectlite_ValueError : Nat := 151
abbrev ty_errors_errorString : Nat := 153
abbrev ty_unsafe_Pointer : Nat := 154
abbrev ty_abi_UncommonType : Nat := 159
abbrev ty_abi_TextOff : Nat := 161
abbrev ty_abi_Method : Nat := 163
end Go.D
