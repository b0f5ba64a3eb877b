/-
  WHAT IS PROVED: the calls and globals of this program. No further conditions.
-/
import Derived.Test.YtnbddjghhmbmcaaGreatDoorMem
import Derived.Test.YtnbddjghhmbmcaaGreatDoorProg
import Derived.KernelRfl
set_option linter.unusedSimpArgs false
set_option maxRecDepth 100000
set_option linter.unusedVariables false
namespace Go.D
open Go Go.Proofs
def Fe : List Nat := [2, 3, 4, 5, 6, 7, 8, 9, 10, 11, 12, 13, 14, 15, 16, 17, 18, 19, 20, 21, 22, 23, 24, 25, 26, 27, 28, 29, 30, 31, 32, 33, 34, 35, 36, 37, 38, 39, 40, 41, 42, 43, 44, 45, 46, 47, 48, 49, 50, 51, 52, 53, 54, 55, 56, 57, 59, 60, 61, 62, 63, 64, 65, 66, 67, 68, 69, 70, 71, 72, 73, 74, 75, 76, 77, 78, 79, 80, 81, 82, 83, 84, 85, 86, 87, 88, 89, 90, 91, 92, 93, 94, 95, 96, 97, 98, 99, 100, 101, 102, 103, 104, 105, 106, 107, 108, 109, 110, 111, 112, 113, 114, 115, 116, 117, 118, 119, 120, 121, 122, 123, 124, 125, 126, 127, 128, 129, 130, 131, 132, 133, 134, 135, 136, 137, 138, 139, 140, 141, 142, 143, 144, 145, 146, 147, 148, 149, 150, 151, 152, 153, 154, 155, 156, 157, 158, 159, 160, 161, 162, 163, 164, 198, 220]
def DD (f : Nat) : Bool := Fe.contains f
theorem Ff : ∀ f ∈ Fe, ∀ (args : Array Value) (w : World), (callFunc f args).run Tryz.prog w = .ok (.enter f args) w := by
 simp only [Fe, List.forall_mem_cons]
 exact ⟨Tryz.call2, Tryz.call3, Tryz.call4, Tryz.call5, Tryz.call6, Tryz.call7, Tryz.call8, Tryz.call9, Tryz.call10, Tryz.call11, Tryz.call12, Tryz.call13, Tryz.call14, Tryz.call15, Tryz.call16, Tryz.call17, Tryz.call18, Tryz.call19, Tryz.call20, Tryz.call21, Tryz.call22, Tryz.call23, Tryz.call24, Tryz.call25, Tryz.call26, Tryz.call27, Tryz.call28, Tryz.call29, Tryz.call30, Tryz.call31, Tryz.call32, Tryz.call33, Tryz.call34, Tryz.call35, Tryz.call36, Tryz.call37, Tryz.call38, Tryz.call39, Tryz.call40, Tryz.call41, Tryz.call42, Tryz.call43, Tryz.call44, Tryz.call45, Tryz.call46, Tryz.call47, Tryz.call48, Tryz.call49, Tryz.call50, Tryz.call51, Tryz.call52, Tryz.call53, Tryz.call54, Tryz.call55, Tryz.call56, Tryz.call57, Tryz.call59, Tryz.call60, Tryz.call61, Tryz.call62, Tryz.call63, Tryz.call64, Tryz.call65, Tryz.call66, Tryz.call67, Tryz.call68, Tryz.call69, Tryz.call70, Tryz.call71, Tryz.call72, Tryz.call73, Tryz.call74, Tryz.call75, Tryz.call76, Tryz.call77, Tryz.call78, Tryz.call79, Tryz.call80, Tryz.call81, Tryz.call82, Tryz.call83, Tryz.call84, Tryz.call85, Tryz.call86, Tryz.call87, Tryz.call88, Tryz.call89, Tryz.call90, Tryz.call91, Tryz.call92, Tryz.call93, Tryz.call94, Tryz.call95, Tryz.call96, Tryz.call97, Tryz.call98, Tryz.call99, Tryz.call100, Tryz.call101, Tryz.call102, Tryz.call103, Tryz.call104, Tryz.call105, Tryz.call106, Tryz.call107, Tryz.call108, Tryz.call109, Tryz.call110, Tryz.call111, Tryz.call112, Tryz.call113, Tryz.call114, Tryz.call115, Tryz.call116, Tryz.call117, Tryz.call118, Tryz.call119, Tryz.call120, Tryz.call121, Tryz.call122, Tryz.call123, Tryz.call124, Tryz.call125, Tryz.call126, Tryz.call127, Tryz.call128, Tryz.call129, Tryz.call130, Tryz.call131, Tryz.call132, Tryz.call133, Tryz.call134, Tryz.call135, Tryz.call136, Tryz.call137, Tryz.call138, Tryz.call139, Tryz.call140, Tryz.call141, Tryz.call142, Tryz.call143, Tryz.call144, Tryz.call145, Tryz.call146, Tryz.call147, Tryz.call148, Tryz.call149, Tryz.call150, Tryz.call151, Tryz.call152, Tryz.call153, Tryz.call154, Tryz.call155, Tryz.call156, Tryz.call157, Tryz.call158, Tryz.call159, Tryz.call160, Tryz.call161, Tryz.call162, Tryz.call163, Tryz.call164, Tryz.call198, Tryz.call220, by simp⟩
theorem ag : eB Tryz.prog DD := fun f args w h => Ff f (by simpa [DD] using h) args w
theorem mixed : Tryz.prog.follows .mixedOrders = true := by kernel_rfl
abbrev dm : Nat := 4
abbrev fb : Nat := 5
abbrev fy : Nat := 6
abbrev dJ : Nat := 7
abbrev fe : Nat := 8
abbrev dP : Nat := 10
abbrev nf : Nat := 11
abbrev ng : Nat := 12
abbrev az : Nat := 13
abbrev eg : Nat := 14
abbrev dh : Nat := 15
abbrev jQ : Nat := 16
abbrev qi : Nat := 17
abbrev dE : Nat := 18
abbrev fS : Nat := 19
abbrev ix : Nat := 20
abbrev qj : Nat := 21
abbrev fW : Nat := 22
abbrev eX : Nat := 23
abbrev oK : Nat := 24
abbrev ff : Nat := 25
abbrev ey : Nat := 26
abbrev bS : Nat := 27
abbrev cn : Nat := 28
abbrev cq : Nat := 29
abbrev gK : Nat := 30
abbrev lD : Nat := 31
abbrev iY : Nat := 32
abbrev fV : Nat := 33
abbrev bn : Nat := 34
abbrev bg : Nat := 35
abbrev bh : Nat := 36
abbrev fz : Nat := 37
abbrev fC : Nat := 38
abbrev fE : Nat := 39
abbrev nh : Nat := 40
abbrev fF : Nat := 41
abbrev iZ : Nat := 42
abbrev dF : Nat := 43
abbrev mv : Nat := 44
abbrev kX : Nat := 45
abbrev fX : Nat := 46
abbrev oL : Nat := 47
abbrev eG : Nat := 48
abbrev bj : Nat := 49
abbrev db : Nat := 50
abbrev gn : Nat := 51
abbrev iy : Nat := 52
abbrev ni : Nat := 53
abbrev iz : Nat := 54
abbrev gp : Nat := 55
abbrev dQ : Nat := 56
abbrev aQ : Nat := 57
abbrev dB : Nat := 60
abbrev eY : Nat := 61
abbrev gq : Nat := 62
abbrev bF : Nat := 63
abbrev bx : Nat := 64
abbrev bb : Nat := 65
abbrev aY : Nat := 66
abbrev aU : Nat := 67
abbrev bX : Nat := 68
abbrev dG : Nat := 69
abbrev eF : Nat := 70
abbrev oM : Nat := 71
abbrev bz : Nat := 72
abbrev fG : Nat := 73
abbrev aV : Nat := 74
abbrev cK : Nat := 75
abbrev aL : Nat := 76
abbrev kY : Nat := 77
abbrev dH : Nat := 78
abbrev fY : Nat := 79
abbrev ja : Nat := 80
abbrev bY : Nat := 81
abbrev iA : Nat := 82
abbrev bq : Nat := 83
abbrev jG : Nat := 84
abbrev gh : Nat := 85
abbrev cE : Nat := 86
abbrev fg : Nat := 87
abbrev jH : Nat := 88
abbrev jU : Nat := 89
abbrev fH : Nat := 90
abbrev fI : Nat := 91
abbrev iB : Nat := 92
abbrev dq : Nat := 93
abbrev br : Nat := 94
abbrev cg : Nat := 95
abbrev iC : Nat := 96
abbrev dt : Nat := 97
abbrev kj : Nat := 98
abbrev du : Nat := 99
abbrev dx : Nat := 100
abbrev dI : Nat := 101
abbrev dR : Nat := 102
abbrev bZ : Nat := 103
abbrev iD : Nat := 104
abbrev jb : Nat := 105
abbrev ct : Nat := 106
abbrev jc : Nat := 107
abbrev iE : Nat := 108
abbrev fJ : Nat := 109
abbrev oN : Nat := 110
abbrev dS : Nat := 111
abbrev ik : Nat := 112
abbrev jd : Nat := 113
abbrev bV : Nat := 114
abbrev jV : Nat := 115
abbrev iF : Nat := 116
abbrev je : Nat := 117
abbrev iW : Nat := 118
abbrev fT : Nat := 119
abbrev iq : Nat := 120
abbrev hZ : Nat := 121
abbrev jI : Nat := 122
abbrev iG : Nat := 124
abbrev gM : Nat := 125
abbrev iu : Nat := 126
abbrev dT : Nat := 127
abbrev gr : Nat := 128
abbrev cA : Nat := 129
abbrev b7 : Nat := 130
abbrev dU : Nat := 131
abbrev jf : Nat := 132
abbrev eH : Nat := 133
abbrev dV : Nat := 134
abbrev fK : Nat := 135
abbrev fL : Nat := 136
abbrev g8 : Nat := 137
abbrev b9 : Nat := 138
abbrev eQ : Nat := 139
abbrev cN : Nat := 140
abbrev cj : Nat := 141
abbrev jW : Nat := 142
abbrev lE : Nat := 143
abbrev aX : Nat := 144
abbrev iH : Nat := 150
abbrev cu : Nat := 151
abbrev gu : Nat := 152
abbrev eZ : Nat := 153
abbrev jg : Nat := 154
abbrev fM : Nat := 155
abbrev eJ : Nat := 156
abbrev bd : Nat := 157
abbrev ee : Nat := 158
abbrev cO : Nat := 160
abbrev gv : Nat := 161
abbrev bH : Nat := 162
abbrev ez : Nat := 0
abbrev aH : Nat := 1
abbrev aD : Nat := 2
abbrev iQ : Nat := 3
abbrev jJ : Nat := 4
abbrev zM : Nat := 5
abbrev xo : Nat := 6
abbrev xp : Nat := 7
abbrev fN : Nat := 8
abbrev eK : Nat := 9
abbrev eL : Nat := 10
abbrev dW : Nat := 11
abbrev lG : Nat := 12
abbrev jX : Nat := 13
abbrev vh : Nat := 14
abbrev lH : Nat := 15
abbrev iR : Nat := 16
abbrev vi : Nat := 17
abbrev vj : Nat := 18
abbrev BF : Nat := 232
abbrev ckSx (o : Option Value) (y : Slc) : Prop := ∃ s : Slc, o = some (Slc.v s) /\ Slc.v s = Slc.v y
abbrev ckIx (k : IntKind) (o : Option Value) (y : Int) : Prop := ∃ n : Int, o = some (.int k n) /\ Value.int k n = Value.int k y
abbrev ckTx (o : Option Value) (y : List UInt8) : Prop := ∃ t : List UInt8, o = some (dA t) /\ dA t = dA y
abbrev ckBx (w : World) (s : Slc) (y : List UInt8) : Prop := ∃ t : List UInt8, au w s t /\ dA t = dA y
abbrev ckPx (o : Option Value) (y : Option Addr) : Prop := ∃ p : Option Addr, o = some (.pointer p) /\ Value.pointer p = Value.pointer y
abbrev ckRx (w : World) (a : Addr) (y : Int) (z : Slc) : Prop := ∃ (n : Int) (s : Slc), rowAt w a 0 [.int .i64 n, Slc.v s] /\ Value.agg ⟨[.int .i64 n, Slc.v s]⟩ = Value.agg ⟨[.int .i64 y, Slc.v z]⟩
end Go.D

