/-
  WHAT IS PROVED: the calls and globals of this program. No further conditions.
-/
import Derived.Test.YtppbbkmjjpggkaaGreatDoorMem
import Derived.Test.YtppbbkmjjpggkaaGreatDoorProg
import Derived.KernelRfl
set_option linter.unusedSimpArgs false
set_option maxRecDepth 100000
set_option linter.unusedVariables false
namespace Go.D
open Go Go.Proofs
def Ed : List Nat := [2, 3, 4, 5, 6, 7, 8, 9, 10, 11, 12, 13, 14, 15, 16, 17, 18, 19, 20, 21, 22, 23, 24, 25, 26, 27, 28, 29, 30, 31, 32, 33, 34, 35, 36, 37, 38, 39, 40, 41, 42, 43, 44, 45, 46, 47, 48, 49, 50, 51, 52, 53, 54, 55, 56, 57, 58, 59, 60, 61, 62, 63, 64, 65, 66, 67, 68, 69, 70, 71, 72, 73, 74, 75, 76, 77, 78, 79, 80, 81, 83, 84, 85, 86, 87, 88, 89, 90, 91, 92, 93, 94, 95, 96, 97, 98, 99, 100, 101, 102, 103, 104, 105, 106, 107, 108, 109, 110, 111, 112, 113, 114, 115, 116, 117, 118, 119, 120, 121, 122, 123, 124, 125, 126, 127, 128, 129, 130, 131, 132, 133, 134, 135, 136, 137, 138, 139, 140, 141, 142, 143, 144, 145, 146, 147, 148, 149, 150, 151, 152, 153, 154, 155, 156, 157, 158, 159, 160, 161, 162, 163, 164, 199, 221]
def CE (f : Nat) : Bool := Ed.contains f
theorem Ee : ∀ f ∈ Ed, ∀ (args : Array Value) (w : World), (callFunc f args).run Tryz.prog w = .ok (.enter f args) w := by
 simp only [Ed, List.forall_mem_cons]
 exact ⟨Tryz.call2, Tryz.call3, Tryz.call4, Tryz.call5, Tryz.call6, Tryz.call7, Tryz.call8, Tryz.call9, Tryz.call10, Tryz.call11, Tryz.call12, Tryz.call13, Tryz.call14, Tryz.call15, Tryz.call16, Tryz.call17, Tryz.call18, Tryz.call19, Tryz.call20, Tryz.call21, Tryz.call22, Tryz.call23, Tryz.call24, Tryz.call25, Tryz.call26, Tryz.call27, Tryz.call28, Tryz.call29, Tryz.call30, Tryz.call31, Tryz.call32, Tryz.call33, Tryz.call34, Tryz.call35, Tryz.call36, Tryz.call37, Tryz.call38, Tryz.call39, Tryz.call40, Tryz.call41, Tryz.call42, Tryz.call43, Tryz.call44, Tryz.call45, Tryz.call46, Tryz.call47, Tryz.call48, Tryz.call49, Tryz.call50, Tryz.call51, Tryz.call52, Tryz.call53, Tryz.call54, Tryz.call55, Tryz.call56, Tryz.call57, Tryz.call58, Tryz.call59, Tryz.call60, Tryz.call61, Tryz.call62, Tryz.call63, Tryz.call64, Tryz.call65, Tryz.call66, Tryz.call67, Tryz.call68, Tryz.call69, Tryz.call70, Tryz.call71, Tryz.call72, Tryz.call73, Tryz.call74, Tryz.call75, Tryz.call76, Tryz.call77, Tryz.call78, Tryz.call79, Tryz.call80, Tryz.call81, Tryz.call83, Tryz.call84, Tryz.call85, Tryz.call86, Tryz.call87, Tryz.call88, Tryz.call89, Tryz.call90, Tryz.call91, Tryz.call92, Tryz.call93, Tryz.call94, Tryz.call95, Tryz.call96, Tryz.call97, Tryz.call98, Tryz.call99, Tryz.call100, Tryz.call101, Tryz.call102, Tryz.call103, Tryz.call104, Tryz.call105, Tryz.call106, Tryz.call107, Tryz.call108, Tryz.call109, Tryz.call110, Tryz.call111, Tryz.call112, Tryz.call113, Tryz.call114, Tryz.call115, Tryz.call116, Tryz.call117, Tryz.call118, Tryz.call119, Tryz.call120, Tryz.call121, Tryz.call122, Tryz.call123, Tryz.call124, Tryz.call125, Tryz.call126, Tryz.call127, Tryz.call128, Tryz.call129, Tryz.call130, Tryz.call131, Tryz.call132, Tryz.call133, Tryz.call134, Tryz.call135, Tryz.call136, Tryz.call137, Tryz.call138, Tryz.call139, Tryz.call140, Tryz.call141, Tryz.call142, Tryz.call143, Tryz.call144, Tryz.call145, Tryz.call146, Tryz.call147, Tryz.call148, Tryz.call149, Tryz.call150, Tryz.call151, Tryz.call152, Tryz.call153, Tryz.call154, Tryz.call155, Tryz.call156, Tryz.call157, Tryz.call158, Tryz.call159, Tryz.call160, Tryz.call161, Tryz.call162, Tryz.call163, Tryz.call164, Tryz.call199, Tryz.call221, by simp⟩
theorem ah : eb Tryz.prog CE := fun f args w h => Ee f (by simpa [CE] using h) args w
theorem mixed : Tryz.prog.follows .mixedOrders = true := by kernel_rfl
abbrev cR : Nat := 3
abbrev eQ : Nat := 6
abbrev cX : Nat := 7
abbrev dq : Nat := 8
abbrev dh : Nat := 9
abbrev cS : Nat := 10
abbrev iw : Nat := 11
abbrev fi : Nat := 12
abbrev fj : Nat := 13
abbrev ji : Nat := 14
abbrev ix : Nat := 16
abbrev bX : Nat := 17
abbrev fF : Nat := 18
abbrev fk : Nat := 20
abbrev gQ : Nat := 21
abbrev dH : Nat := 23
abbrev lu : Nat := 32
abbrev j7 : Nat := 33
abbrev uj : Nat := 34
abbrev fG : Nat := 35
abbrev j8 : Nat := 36
abbrev ey : Nat := 37
abbrev dT : Nat := 38
abbrev az : Nat := 39
abbrev jN : Nat := 40
abbrev j9 : Nat := 41
abbrev eR : Nat := 42
abbrev iy : Nat := 43
abbrev cD : Nat := 44
abbrev cZ : Nat := 45
abbrev dt : Nat := 46
abbrev du : Nat := 47
abbrev dx : Nat := 48
abbrev bp : Nat := 49
abbrev bH : Nat := 50
abbrev pa : Nat := 51
abbrev bY : Nat := 52
abbrev fl : Nat := 53
abbrev aH : Nat := 54
abbrev bC : Nat := 55
abbrev ez : Nat := 56
abbrev ka : Nat := 65
abbrev dy : Nat := 66
abbrev fH : Nat := 67
abbrev iz : Nat := 68
abbrev eK : Nat := 69
abbrev ng : Nat := 70
abbrev ke : Nat := 71
abbrev aW : Nat := 72
abbrev gC : Nat := 73
abbrev da : Nat := 74
abbrev fS : Nat := 75
abbrev dU : Nat := 76
abbrev gR : Nat := 77
abbrev iA : Nat := 78
abbrev iB : Nat := 79
abbrev iC : Nat := 80
abbrev iD : Nat := 81
abbrev dX : Nat := 84
abbrev gi : Nat := 85
abbrev gy : Nat := 86
abbrev iE : Nat := 87
abbrev bk : Nat := 88
abbrev dI : Nat := 89
abbrev aY : Nat := 90
abbrev cE : Nat := 91
abbrev aI : Nat := 92
abbrev dA : Nat := 93
abbrev bS : Nat := 94
abbrev dc : Nat := 95
abbrev cY : Nat := 96
abbrev dJ : Nat := 100
abbrev bP : Nat := 101
abbrev gS : Nat := 102
abbrev iF : Nat := 103
abbrev bZ : Nat := 104
abbrev iG : Nat := 105
abbrev gT : Nat := 106
abbrev fo : Nat := 107
abbrev fK : Nat := 108
abbrev lv : Nat := 109
abbrev kz : Nat := 110
abbrev ba : Nat := 111
abbrev cU : Nat := 112
abbrev dK : Nat := 113
abbrev dj : Nat := 114
abbrev fT : Nat := 115
abbrev eg : Nat := 116
abbrev gU : Nat := 117
abbrev bK : Nat := 118
abbrev dE : Nat := 119
abbrev dF : Nat := 120
abbrev lZ : Nat := 121
abbrev de : Nat := 122
abbrev dg : Nat := 123
abbrev dB : Nat := 124
abbrev fI : Nat := 125
abbrev fp : Nat := 128
abbrev gz : Nat := 129
abbrev bQ : Nat := 130
abbrev eG : Nat := 131
abbrev gj : Nat := 132
abbrev bT : Nat := 133
abbrev ju : Nat := 134
abbrev nh : Nat := 135
abbrev jw : Nat := 136
abbrev fq : Nat := 137
abbrev dL : Nat := 138
abbrev fv : Nat := 139
abbrev gV : Nat := 140
abbrev gk : Nat := 141
abbrev fw : Nat := 142
abbrev eA : Nat := 143
abbrev gN : Nat := 144
abbrev bg : Nat := 145
abbrev dV : Nat := 146
abbrev dN : Nat := 147
abbrev fU : Nat := 148
abbrev ct : Nat := 149
abbrev bR : Nat := 150
abbrev dO : Nat := 151
abbrev iH : Nat := 152
abbrev ib : Nat := 153
abbrev eB : Nat := 154
abbrev bx : Nat := 155
abbrev gW : Nat := 157
abbrev b9 : Nat := 158
abbrev fV : Nat := 159
abbrev eL : Nat := 160
abbrev iI : Nat := 161
abbrev cK : Nat := 163
abbrev fW : Nat := 164
abbrev gX : Nat := 0
abbrev aG : Nat := 1
abbrev cw : Nat := 2
abbrev bE : Nat := 3
abbrev aB : Nat := 4
abbrev kq : Nat := 5
abbrev vK : Nat := 6
abbrev vL : Nat := 7
abbrev eo : Nat := 8
abbrev gE : Nat := 9
abbrev fC : Nat := 10
abbrev eC : Nat := 11
abbrev jj : Nat := 12
abbrev jx : Nat := 13
abbrev uk : Nat := 14
abbrev kA : Nat := 15
abbrev ic : Nat := 16
abbrev um : Nat := 17
abbrev uo : Nat := 18
abbrev uq : Nat := 252
abbrev ni : Nat := 105
end Go.D

