/-
  WHAT IS PROVED: the calls and globals of this program. No further conditions.
-/
import Derived.Test.YtkcobfichmjbdaaDoorMem
import Derived.Test.YtkcobfichmjbdaaDoorProg
import Derived.KernelRfl
set_option linter.unusedSimpArgs false
set_option maxRecDepth 100000
set_option linter.unusedVariables false
namespace Go.D
open Go Go.Proofs
def callL : List Nat := [2, 3, 4, 5, 6, 7, 8, 9, 10, 11, 12, 13, 14, 15, 16, 17, 18, 19, 20, 21, 22, 23, 24, 25, 26, 27, 28, 29, 30, 31, 32, 33, 34, 35, 36, 37, 38, 39, 40, 41, 42, 43, 44, 45, 46, 47, 48, 49, 50, 51, 52, 53, 54, 55, 56, 57, 58, 59, 60, 61, 62, 63, 64, 65, 66, 67, 68, 69, 70, 71, 72, 73, 74, 75, 76, 77, 78, 79, 80, 81, 82, 83, 84, 85, 86, 87, 88, 89, 90, 92, 93, 94, 95, 127, 149]
def callB (f : Nat) : Bool := callL.contains f
theorem callL_ok : ∀ f ∈ callL, ∀ (args : Array Value) (w : World), (callFunc f args).run Tryd.prog w = .ok (.enter f args) w := by
  simp only [callL, List.forall_mem_cons]
  exact ⟨Tryd.call2, Tryd.call3, Tryd.call4, Tryd.call5, Tryd.call6, Tryd.call7, Tryd.call8, Tryd.call9, Tryd.call10, Tryd.call11, Tryd.call12, Tryd.call13, Tryd.call14, Tryd.call15, Tryd.call16, Tryd.call17, Tryd.call18, Tryd.call19, Tryd.call20, Tryd.call21, Tryd.call22, Tryd.call23, Tryd.call24, Tryd.call25, Tryd.call26, Tryd.call27, Tryd.call28, Tryd.call29, Tryd.call30, Tryd.call31, Tryd.call32, Tryd.call33, Tryd.call34, Tryd.call35, Tryd.call36, Tryd.call37, Tryd.call38, Tryd.call39, Tryd.call40, Tryd.call41, Tryd.call42, Tryd.call43, Tryd.call44, Tryd.call45, Tryd.call46, Tryd.call47, Tryd.call48, Tryd.call49, Tryd.call50, Tryd.call51, Tryd.call52, Tryd.call53, Tryd.call54, Tryd.call55, Tryd.call56, Tryd.call57, Tryd.call58, Tryd.call59, Tryd.call60, Tryd.call61, Tryd.call62, Tryd.call63, Tryd.call64, Tryd.call65, Tryd.call66, Tryd.call67, Tryd.call68, Tryd.call69, Tryd.call70, Tryd.call71, Tryd.call72, Tryd.call73, Tryd.call74, Tryd.call75, Tryd.call76, Tryd.call77, Tryd.call78, Tryd.call79, Tryd.call80, Tryd.call81, Tryd.call82, Tryd.call83, Tryd.call84, Tryd.call85, Tryd.call86, Tryd.call87, Tryd.call88, Tryd.call89, Tryd.call90, Tryd.call92, Tryd.call93, Tryd.call94, Tryd.call95, Tryd.call127, Tryd.call149, by simp⟩
theorem callB_ok : Callable Tryd.prog callB := fun f args w h => callL_ok f (by simpa [callB] using h) args w
theorem mixed : Tryd.prog.follows .mixedOrders = true := by kernel_rfl

abbrev fn_tidewaterlaw11_VoteOne : Nat := 3
abbrev fn_tidewaterlaw11_VoteProposes : Nat := 4
abbrev fn_tidewaterlaw07_DiskFlushes : Nat := 5
abbrev fn_tidewaterlaw07_DiskFrom : Nat := 6
abbrev fn_tidewaterlaw13_TokenApart : Nat := 7
abbrev fn_tidewaterlaw13_TokenOnce : Nat := 8
abbrev fn_tidewaterlaw13_TokenPlays : Nat := 9
abbrev fn_tidewaterlaw35_OrderFinds : Nat := 10
abbrev fn_tidewaterlaw35_OrderLimits : Nat := 11
abbrev fn_tidewaterlaw35_OrderChecks : Nat := 12
abbrev fn_tidewaterlaw35_OrderSeen : Nat := 13
abbrev fn_tidewaterlaw11_alive : Nat := 14
abbrev fn_tidewaterlaw11_side_begin : Nat := 15
abbrev fn_vote_Proposer_Asks : Nat := 16
abbrev fn_vote_Proposer_Accepted : Nat := 17
abbrev fn_vote_Voter_Accept : Nat := 18
abbrev fn_vote_Proposer_Promise : Nat := 19
abbrev fn_vote_Voter_Prepare : Nat := 20
abbrev fn_vote_Proposer_Decided : Nat := 21
abbrev fn_vote_New : Nat := 22
abbrev fn_tidewaternum_Num : Nat := 23
abbrev fn_tidewaterref11_Proposer_Accepted : Nat := 24
abbrev fn_tidewaterref11_Proposer_Decided : Nat := 25
abbrev fn_tidewaterref11_Proposer_Asks : Nat := 26
abbrev fn_tidewaterlaw07_alive : Nat := 27
abbrev fn_disk_New : Nat := 28
abbrev fn_disk_Device_Write : Nat := 29
abbrev fn_disk_Device_Flush : Nat := 30
abbrev fn_disk_Device_Image : Nat := 31
abbrev fn_disk_Device_Crash : Nat := 32
abbrev fn_disk_Device_Pending : Nat := 33
abbrev fn_disk_Device_Down : Nat := 34
abbrev fn_tidewaternum_Bytes : Nat := 35
abbrev fn_disk_From : Nat := 36
abbrev fn_tidewaternum_Kept : Nat := 37
abbrev fn_disk_Device_Read : Nat := 38
abbrev fn_disk_Device_Len : Nat := 39
abbrev fn_tidewaterlaw13_alive : Nat := 40
abbrev fn_token_New : Nat := 41
abbrev fn_token_Sequencer_Copy : Nat := 42
abbrev fn_token_Sequencer_Newest : Nat := 43
abbrev fn_token_Sequencer_Next : Nat := 44
abbrev fn_token_Sequencer_Take : Nat := 45
abbrev fn_tidewaternum_SameInts : Nat := 46
abbrev fn_tidewaternum_In : Nat := 47
abbrev fn_tidewaterlaw13_long : Nat := 48
abbrev fn_tidewaterref13_New : Nat := 49
abbrev fn_tidewaterref13_Sequencer_Take : Nat := 50
abbrev fn_tidewaterref06_SameBacks : Nat := 51
abbrev fn_tidewaterlaw13_same : Nat := 52
abbrev fn_tidewaterlaw35_alive : Nat := 53
abbrev fn_tidewaterlaw35_of : Nat := 54
abbrev fn_order_Find : Nat := 55
abbrev fn_tidewaterref35_Right : Nat := 56
abbrev fn_order_Most : Nat := 57
abbrev fn_tidewaterref35_Find : Nat := 58
abbrev fn_order_Check : Nat := 59
abbrev fn_tidewaterref35_Stands : Nat := 60
abbrev fn_vote_Voter_Promised : Nat := 61
abbrev fn_vote_Proposer_most : Nat := 62
abbrev fn_vote_Proposer_has : Nat := 63
abbrev fn_vote_Voter_look : Nat := 64
abbrev fn_vote_Voter_keep : Nat := 65
abbrev fn_errors_Is : Nat := 66
abbrev fn_tidewaterref11_Proposer_firsts : Nat := 67
abbrev fn_disk_Device_has : Nat := 68
abbrev fn_disk_Device_down : Nat := 69
abbrev fn_slices_Clone_byte : Nat := 70
abbrev fn_disk_Device_do : Nat := 71
abbrev fn_slices_Backward_write : Nat := 72
abbrev fn_token_stream : Nat := 73
abbrev fn_token_falls : Nat := 74
abbrev fn_slices_Clone_int : Nat := 75
abbrev fn_token_rises : Nat := 76
abbrev fn_tidewaterref13_right : Nat := 77
abbrev fn_tidewaterref13_newest : Nat := 78
abbrev fn_token_Sequencer_Epoch : Nat := 79
abbrev fn_token_Sequencer_Backs : Nat := 80
abbrev fn_tidewaterref13_Sequencer_Backs : Nat := 81
abbrev fn_tidewaterref13_Sequencer_Newest : Nat := 82
abbrev fn_slices_ContainsFunc_Event : Nat := 83
abbrev fn_order_Find_1 : Nat := 84
abbrev fn_order_Event_right : Nat := 85
abbrev fn_order_search_goOn : Nat := 86
abbrev fn_slices_IndexFunc_Event : Nat := 87
abbrev fn_order_Most_1 : Nat := 88
abbrev fn_tidewaterref35_Next : Nat := 89
abbrev fn_order_Event_do : Nat := 90
abbrev fn_errors_is : Nat := 92
abbrev fn_slices_Backward_write_1 : Nat := 93
abbrev fn_order_search_may : Nat := 94
abbrev fn_maps_Clone_string : Nat := 95
abbrev fn_errors_New : Nat := 127
abbrev gl_ErrRange : Nat := 0
abbrev gl_ErrForm : Nat := 1
abbrev gl_ErrShort : Nat := 2
abbrev gl_ErrLong : Nat := 3
abbrev gl_ErrSum : Nat := 4
abbrev gl_ErrRune : Nat := 5
abbrev gl_ErrName : Nat := 6
abbrev gl_ErrSealed : Nat := 7
abbrev gl_ErrWritten : Nat := 8
abbrev gl_ErrUnwritten : Nat := 9
abbrev gl_ErrTrimmed : Nat := 10
abbrev gl_ErrDown : Nat := 11
abbrev gl_ErrFull : Nat := 12
abbrev gl_ErrEpoch : Nat := 13
abbrev gl_ErrMoved : Nat := 14
abbrev gl_ErrNone : Nat := 15
abbrev gl_ErrState : Nat := 16
abbrev gl_ErrClash : Nat := 17
abbrev gl_ErrStale : Nat := 18
abbrev tyErr : Nat := 192
end Go.D
