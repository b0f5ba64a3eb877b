/-
  WHAT IS PROVED: the calls and globals of this program. No further conditions.
-/
import Derived.Test.YtppbbkmjjpggkaaGreatDoorMem
import Derived.Test.YtppbbkmjjpggkaaGreatDoorProg
import Derived.KernelRfl
set_option linter.unusedSimpArgs false
set_option maxRecDepth 100000
set_option linter.unusedVariables false
namespace Go.D
open Go Go.Proofs
def Ei : List Nat := [2, 3, 4, 5, 6, 7, 8, 9, 10, 11, 12, 13, 14, 15, 16, 17, 18, 19, 20, 21, 22, 23, 24, 25, 26, 27, 28, 29, 30, 31, 32, 33, 34, 35, 36, 37, 38, 39, 40, 41, 42, 43, 44, 45, 46, 47, 48, 49, 50, 51, 52, 53, 54, 55, 56, 57, 58, 59, 60, 61, 62, 63, 64, 65, 66, 67, 68, 69, 70, 71, 72, 73, 74, 75, 76, 77, 78, 79, 80, 81, 83, 84, 85, 86, 87, 88, 89, 90, 91, 92, 93, 94, 95, 96, 97, 98, 99, 100, 101, 102, 103, 104, 105, 106, 107, 108, 109, 110, 111, 112, 113, 114, 115, 116, 117, 118, 119, 120, 121, 122, 123, 124, 125, 126, 127, 128, 129, 130, 131, 132, 133, 134, 135, 136, 137, 138, 139, 140, 141, 142, 143, 144, 145, 146, 147, 148, 149, 150, 151, 152, 153, 154, 155, 156, 157, 158, 159, 160, 161, 162, 163, 164, 199, 221]
def CE (f : Nat) : Bool := Ei.contains f
theorem Ej : ∀ f ∈ Ei, ∀ (args : Array Value) (w : World), (callFunc f args).run Tryz.prog w = .ok (.enter f args) w := by
 simp only [Ei, List.forall_mem_cons]
 exact ⟨Tryz.call2, Tryz.call3, Tryz.call4, Tryz.call5, Tryz.call6, Tryz.call7, Tryz.call8, Tryz.call9, Tryz.call10, Tryz.call11, Tryz.call12, Tryz.call13, Tryz.call14, Tryz.call15, Tryz.call16, Tryz.call17, Tryz.call18, Tryz.call19, Tryz.call20, Tryz.call21, Tryz.call22, Tryz.call23, Tryz.call24, Tryz.call25, Tryz.call26, Tryz.call27, Tryz.call28, Tryz.call29, Tryz.call30, Tryz.call31, Tryz.call32, Tryz.call33, Tryz.call34, Tryz.call35, Tryz.call36, Tryz.call37, Tryz.call38, Tryz.call39, Tryz.call40, Tryz.call41, Tryz.call42, Tryz.call43, Tryz.call44, Tryz.call45, Tryz.call46, Tryz.call47, Tryz.call48, Tryz.call49, Tryz.call50, Tryz.call51, Tryz.call52, Tryz.call53, Tryz.call54, Tryz.call55, Tryz.call56, Tryz.call57, Tryz.call58, Tryz.call59, Tryz.call60, Tryz.call61, Tryz.call62, Tryz.call63, Tryz.call64, Tryz.call65, Tryz.call66, Tryz.call67, Tryz.call68, Tryz.call69, Tryz.call70, Tryz.call71, Tryz.call72, Tryz.call73, Tryz.call74, Tryz.call75, Tryz.call76, Tryz.call77, Tryz.call78, Tryz.call79, Tryz.call80, Tryz.call81, Tryz.call83, Tryz.call84, Tryz.call85, Tryz.call86, Tryz.call87, Tryz.call88, Tryz.call89, Tryz.call90, Tryz.call91, Tryz.call92, Tryz.call93, Tryz.call94, Tryz.call95, Tryz.call96, Tryz.call97, Tryz.call98, Tryz.call99, Tryz.call100, Tryz.call101, Tryz.call102, Tryz.call103, Tryz.call104, Tryz.call105, Tryz.call106, Tryz.call107, Tryz.call108, Tryz.call109, Tryz.call110, Tryz.call111, Tryz.call112, Tryz.call113, Tryz.call114, Tryz.call115, Tryz.call116, Tryz.call117, Tryz.call118, Tryz.call119, Tryz.call120, Tryz.call121, Tryz.call122, Tryz.call123, Tryz.call124, Tryz.call125, Tryz.call126, Tryz.call127, Tryz.call128, Tryz.call129, Tryz.call130, Tryz.call131, Tryz.call132, Tryz.call133, Tryz.call134, Tryz.call135, Tryz.call136, Tryz.call137, Tryz.call138, Tryz.call139, Tryz.call140, Tryz.call141, Tryz.call142, Tryz.call143, Tryz.call144, Tryz.call145, Tryz.call146, Tryz.call147, Tryz.call148, Tryz.call149, Tryz.call150, Tryz.call151, Tryz.call152, Tryz.call153, Tryz.call154, Tryz.call155, Tryz.call156, Tryz.call157, Tryz.call158, Tryz.call159, Tryz.call160, Tryz.call161, Tryz.call162, Tryz.call163, Tryz.call164, Tryz.call199, Tryz.call221, by simp⟩
theorem ah : dF Tryz.prog CE := fun f args w h => Ej f (by simpa [CE] using h) args w
theorem mixed : Tryz.prog.follows .mixedOrders = true := by kernel_rfl
abbrev dc : Nat := 5
abbrev ei : Nat := 6
abbrev cM : Nat := 7
abbrev cl : Nat := 9
abbrev gw : Nat := 12
abbrev fW : Nat := 14
abbrev fw : Nat := 16
abbrev de : Nat := 17
abbrev fj : Nat := 18
abbrev gi : Nat := 19
abbrev eL : Nat := 20
abbrev eM : Nat := 21
abbrev gx : Nat := 22
abbrev bM : Nat := 23
abbrev qm : Nat := 24
abbrev dE : Nat := 25
abbrev eO : Nat := 26
abbrev fX : Nat := 27
abbrev g9 : Nat := 28
abbrev eQ : Nat := 29
abbrev jw : Nat := 30
abbrev hZ : Nat := 31
abbrev kH : Nat := 32
abbrev jM : Nat := 33
abbrev ud : Nat := 34
abbrev fk : Nat := 35
abbrev jN : Nat := 36
abbrev dJ : Nat := 37
abbrev dy : Nat := 38
abbrev ar : Nat := 39
abbrev jx : Nat := 40
abbrev jO : Nat := 41
abbrev eo : Nat := 42
abbrev ia : Nat := 43
abbrev cA : Nat := 44
abbrev dK : Nat := 50
abbrev oC : Nat := 51
abbrev bX : Nat := 52
abbrev eR : Nat := 53
abbrev aG : Nat := 54
abbrev bD : Nat := 55
abbrev dL : Nat := 56
abbrev fl : Nat := 57
abbrev eu : Nat := 58
abbrev ib : Nat := 59
abbrev fg : Nat := 60
abbrev fY : Nat := 61
abbrev gu : Nat := 62
abbrev bd : Nat := 63
abbrev eS : Nat := 64
abbrev jP : Nat := 65
abbrev cU : Nat := 66
abbrev fo : Nat := 67
abbrev ic : Nat := 68
abbrev dY : Nat := 69
abbrev mC : Nat := 70
abbrev jQ : Nat := 71
abbrev aQ : Nat := 72
abbrev gm : Nat := 73
abbrev cO : Nat := 74
abbrev fL : Nat := 75
abbrev dz : Nat := 76
abbrev gy : Nat := 77
abbrev ie : Nat := 78
abbrev ig : Nat := 79
abbrev ij : Nat := 80
abbrev ik : Nat := 81
abbrev dB : Nat := 84
abbrev fZ : Nat := 85
abbrev gj : Nat := 86
abbrev iq : Nat := 87
abbrev bH : Nat := 92
abbrev eU : Nat := 93
abbrev cN : Nat := 96
abbrev iY : Nat := 97
abbrev fx : Nat := 98
abbrev dM : Nat := 99
abbrev dg : Nat := 100
abbrev bP : Nat := 101
abbrev gz : Nat := 102
abbrev iu : Nat := 103
abbrev bY : Nat := 104
abbrev iw : Nat := 105
abbrev gA : Nat := 106
abbrev eV : Nat := 107
abbrev fy : Nat := 108
abbrev kI : Nat := 109
abbrev j0 : Nat := 110
abbrev aT : Nat := 111
abbrev cL : Nat := 112
abbrev dh : Nat := 113
abbrev cQ : Nat := 114
abbrev fM : Nat := 115
abbrev dH : Nat := 116
abbrev gC : Nat := 117
abbrev bK : Nat := 118
abbrev cY : Nat := 119
abbrev cZ : Nat := 120
abbrev lx : Nat := 121
abbrev fp : Nat := 125
abbrev gE : Nat := 127
abbrev eW : Nat := 128
abbrev gk : Nat := 129
abbrev bQ : Nat := 130
abbrev dU : Nat := 131
abbrev ga : Nat := 132
abbrev bS : Nat := 133
abbrev je : Nat := 134
abbrev mD : Nat := 135
abbrev jf : Nat := 136
abbrev eX : Nat := 137
abbrev dj : Nat := 138
abbrev eY : Nat := 139
abbrev gF : Nat := 140
abbrev gb : Nat := 141
abbrev eZ : Nat := 142
abbrev dN : Nat := 143
abbrev gv : Nat := 144
abbrev ba : Nat := 145
abbrev dA : Nat := 146
abbrev dk : Nat := 147
abbrev fN : Nat := 148
abbrev cm : Nat := 149
abbrev bR : Nat := 150
abbrev dm : Nat := 151
abbrev ix : Nat := 152
abbrev gR : Nat := 153
abbrev dO : Nat := 154
abbrev bu : Nat := 155
abbrev gG : Nat := 157
abbrev bZ : Nat := 158
abbrev fO : Nat := 159
abbrev dZ : Nat := 160
abbrev iy : Nat := 161
abbrev cG : Nat := 163
abbrev fP : Nat := 164
abbrev dP : Nat := 0
abbrev aD : Nat := 1
abbrev ct : Nat := 2
abbrev bw : Nat := 3
abbrev aw : Nat := 4
abbrev jV : Nat := 5
abbrev vK : Nat := 6
abbrev vL : Nat := 7
abbrev dI : Nat := 8
abbrev gn : Nat := 9
abbrev fh : Nat := 10
abbrev dQ : Nat := 11
abbrev gH : Nat := 12
abbrev jg : Nat := 13
abbrev ue : Nat := 14
abbrev fa : Nat := 15
abbrev gS : Nat := 16
abbrev ug : Nat := 17
abbrev uh : Nat := 18
abbrev ui : Nat := 252
abbrev vM : Nat := 80
abbrev mE : Nat := 105
end Go.D

