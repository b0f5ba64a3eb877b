/-
  WHAT IS PROVED: the calls and globals of this program. No further conditions.
-/
import Derived.Test.YtpnchpkklamnnaaDoorMem
import Derived.Test.YtpnchpkklamnnaaDoorProg
import Derived.KernelRfl
set_option linter.unusedSimpArgs false
set_option maxRecDepth 100000
set_option linter.unusedVariables false
namespace Go.D
open Go Go.Proofs
def callL : List Nat := [2, 3, 4, 5, 6, 7, 8, 9, 10, 11, 12, 13, 14, 15, 16, 17, 18, 19, 20, 21, 22, 23, 24, 25, 26, 27, 28, 29, 30, 31, 32, 33, 34, 35, 36, 37, 38, 39, 40, 41, 42, 43, 44, 45, 46, 47, 48, 49, 50, 51, 52, 53, 54, 55, 56, 57, 58, 59, 60, 61, 62, 63, 64, 65, 66, 67, 68, 69, 70, 71, 72, 73, 74, 75, 76, 77, 78, 79, 81, 82, 83, 84, 85, 86, 87, 118, 140]
def callB (f : Nat) : Bool := callL.contains f
theorem callL_ok : ∀ f ∈ callL, ∀ (args : Array Value) (w : World), (callFunc f args).run Tryd.prog w = .ok (.enter f args) w := by
  simp only [callL, List.forall_mem_cons]
  exact ⟨Tryd.call2, Tryd.call3, Tryd.call4, Tryd.call5, Tryd.call6, Tryd.call7, Tryd.call8, Tryd.call9, Tryd.call10, Tryd.call11, Tryd.call12, Tryd.call13, Tryd.call14, Tryd.call15, Tryd.call16, Tryd.call17, Tryd.call18, Tryd.call19, Tryd.call20, Tryd.call21, Tryd.call22, Tryd.call23, Tryd.call24, Tryd.call25, Tryd.call26, Tryd.call27, Tryd.call28, Tryd.call29, Tryd.call30, Tryd.call31, Tryd.call32, Tryd.call33, Tryd.call34, Tryd.call35, Tryd.call36, Tryd.call37, Tryd.call38, Tryd.call39, Tryd.call40, Tryd.call41, Tryd.call42, Tryd.call43, Tryd.call44, Tryd.call45, Tryd.call46, Tryd.call47, Tryd.call48, Tryd.call49, Tryd.call50, Tryd.call51, Tryd.call52, Tryd.call53, Tryd.call54, Tryd.call55, Tryd.call56, Tryd.call57, Tryd.call58, Tryd.call59, Tryd.call60, Tryd.call61, Tryd.call62, Tryd.call63, Tryd.call64, Tryd.call65, Tryd.call66, Tryd.call67, Tryd.call68, Tryd.call69, Tryd.call70, Tryd.call71, Tryd.call72, Tryd.call73, Tryd.call74, Tryd.call75, Tryd.call76, Tryd.call77, Tryd.call78, Tryd.call79, Tryd.call81, Tryd.call82, Tryd.call83, Tryd.call84, Tryd.call85, Tryd.call86, Tryd.call87, Tryd.call118, Tryd.call140, by simp⟩
theorem callB_ok : Callable Tryd.prog callB := fun f args w h => callL_ok f (by simpa [callB] using h) args w
theorem mixed : Tryd.prog.follows .mixedOrders = true := by kernel_rfl

abbrev fn_tidewaterlaw01_SumsSize : Nat := 3
abbrev fn_tidewaterlaw01_SumsOpens : Nat := 4
abbrev fn_tidewaterlaw01_SumsFrames : Nat := 5
abbrev fn_tidewaterlaw01_SumsBurst : Nat := 6
abbrev fn_tidewaterlaw33_WireErrors : Nat := 7
abbrev fn_tidewaterlaw33_WireAsks : Nat := 8
abbrev fn_tidewaterlaw33_WireBurst : Nat := 9
abbrev fn_tidewaterlaw33_WireTells : Nat := 10
abbrev fn_tidewaterlaw04_PackLeast : Nat := 11
abbrev fn_tidewaterlaw04_PackStops : Nat := 12
abbrev fn_tidewaterlaw04_PackWrites : Nat := 13
abbrev fn_tidewaterlaw24_CheckParts : Nat := 14
abbrev fn_tidewaterlaw01_alive : Nat := 15
abbrev fn_sums_Size : Nat := 16
abbrev fn_sums_Frame : Nat := 17
abbrev fn_tidewaternum_Bytes : Nat := 18
abbrev fn_sums_Open : Nat := 19
abbrev fn_tidewaterref01_Open : Nat := 20
abbrev fn_tidewaternum_Num : Nat := 21
abbrev fn_tidewaternum_Kept : Nat := 22
abbrev fn_tidewaterref01_Frame : Nat := 23
abbrev fn_tidewaterlaw33_alive : Nat := 24
abbrev fn_wire_Error : Nat := 25
abbrev fn_wire_Number : Nat := 26
abbrev fn_wire_Ask : Nat := 27
abbrev fn_tidewaterref33_RightAsk : Nat := 28
abbrev fn_wire_Read : Nat := 29
abbrev fn_tidewaterref33_Ask : Nat := 30
abbrev fn_tidewaterlaw33_sameAsk : Nat := 31
abbrev fn_tidewaterlaw33_sameTell : Nat := 32
abbrev fn_wire_Tell : Nat := 33
abbrev fn_tidewaterref33_RightTell : Nat := 34
abbrev fn_tidewaterref33_Tell : Nat := 35
abbrev fn_tidewaterlaw04_alive : Nat := 36
abbrev fn_pack_Read : Nat := 37
abbrev fn_pack_In_Num : Nat := 38
abbrev fn_pack_In_Left : Nat := 39
abbrev fn_pack_In_End : Nat := 40
abbrev fn_pack_Out_Num : Nat := 41
abbrev fn_pack_Out_Done : Nat := 42
abbrev fn_pack_Out_Text : Nat := 43
abbrev fn_pack_In_Err : Nat := 44
abbrev fn_pack_In_Text : Nat := 45
abbrev fn_pack_In_Nums : Nat := 46
abbrev fn_tidewaterlaw04_long : Nat := 47
abbrev fn_tidewaterlaw04_right : Nat := 48
abbrev fn_tidewaterref04_Num : Nat := 49
abbrev fn_tidewaterref04_Text : Nat := 50
abbrev fn_pack_Out_Nums : Nat := 51
abbrev fn_tidewaterref04_Nums : Nat := 52
abbrev fn_tidewaterlaw04_back : Nat := 53
abbrev fn_tidewaterlaw24_alive : Nat := 54
abbrev fn_check_Parts : Nat := 55
abbrev fn_tidewaterref24_Parts : Nat := 56
abbrev fn_tidewaterref05_Same : Nat := 57
abbrev fn_sums_Sum : Nat := 58
abbrev fn_slices_Clone_byte : Nat := 59
abbrev fn_errors_Is : Nat := 60
abbrev fn_tidewaterref01_Sum : Nat := 61
abbrev fn_wire_table : Nat := 62
abbrev fn_slices_IndexFunc_error : Nat := 63
abbrev fn_wire_Number_1 : Nat := 64
abbrev fn_wire_Request_right : Nat := 65
abbrev fn_wire_framed : Nat := 66
abbrev fn_tidewaterref33_upto : Nat := 67
abbrev fn_tidewaterref33_framed : Nat := 68
abbrev fn_wire_Reply_right : Nat := 69
abbrev fn_pack_In_raw : Nat := 70
abbrev fn_pack_In_fail : Nat := 71
abbrev fn_pack_Out_fail : Nat := 72
abbrev fn_tidewaternum_SameInts : Nat := 73
abbrev fn_slices_Chunk_byte : Nat := 74
abbrev fn_check_summed : Nat := 75
abbrev fn_tidewaterref24_summed : Nat := 76
abbrev fn_tidewaterref05_Right : Nat := 77
abbrev fn_tidewaterref05_Bytes : Nat := 78
abbrev fn_sums_step : Nat := 79
abbrev fn_errors_is : Nat := 81
abbrev fn_wire_within : Nat := 82
abbrev fn_slices_Chunk_byte_1 : Nat := 83
abbrev fn_tidewaterref05_upto : Nat := 84
abbrev fn_tidewaterref05_key : Nat := 85
abbrev fn_tidewaterref02_Key : Nat := 86
abbrev fn_tidewaterref02_Runes : Nat := 87
abbrev fn_errors_New : Nat := 118
abbrev gl_ErrLong : Nat := 0
abbrev gl_ErrShort : Nat := 1
abbrev gl_ErrSum : Nat := 2
abbrev gl_ErrRange : Nat := 3
abbrev gl_ErrForm : Nat := 4
abbrev gl_ErrRune : Nat := 5
abbrev gl_ErrName : Nat := 6
abbrev gl_ErrSealed : Nat := 7
abbrev gl_ErrWritten : Nat := 8
abbrev gl_ErrUnwritten : Nat := 9
abbrev gl_ErrTrimmed : Nat := 10
abbrev gl_ErrDown : Nat := 11
abbrev gl_ErrFull : Nat := 12
abbrev gl_ErrEpoch : Nat := 13
abbrev gl_ErrMoved : Nat := 14
abbrev gl_ErrNone : Nat := 15
abbrev gl_ErrState : Nat := 16
abbrev gl_ErrClash : Nat := 17
abbrev gl_ErrStale : Nat := 18
abbrev tyErr : Nat := 135
end Go.D
