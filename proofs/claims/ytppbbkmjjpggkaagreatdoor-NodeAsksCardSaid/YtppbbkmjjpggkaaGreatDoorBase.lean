/-
  WHAT IS PROVED: the calls and globals of this program. No further conditions.
-/
import Derived.Test.YtppbbkmjjpggkaaGreatDoorMem
import Derived.Test.YtppbbkmjjpggkaaGreatDoorProg
import Derived.KernelRfl
set_option linter.unusedSimpArgs false
set_option maxRecDepth 100000
set_option linter.unusedVariables false
namespace Go.D
open Go Go.Proofs
def Cg : List Nat := [2, 3, 4, 5, 6, 7, 8, 9, 10, 11, 12, 13, 14, 15, 16, 17, 18, 19, 20, 21, 22, 23, 24, 25, 26, 27, 28, 29, 30, 31, 32, 33, 34, 35, 36, 37, 38, 39, 40, 41, 42, 43, 44, 45, 46, 47, 48, 49, 50, 51, 52, 53, 54, 55, 56, 57, 58, 59, 60, 61, 62, 63, 64, 65, 66, 67, 68, 69, 70, 71, 72, 73, 74, 75, 76, 77, 78, 79, 80, 81, 83, 84, 85, 86, 87, 88, 89, 90, 91, 92, 93, 94, 95, 96, 97, 98, 99, 100, 101, 102, 103, 104, 105, 106, 107, 108, 109, 110, 111, 112, 113, 114, 115, 116, 117, 118, 119, 120, 121, 122, 123, 124, 125, 126, 127, 128, 129, 130, 131, 132, 133, 134, 135, 136, 137, 138, 139, 140, 141, 142, 143, 144, 145, 146, 147, 148, 149, 150, 151, 152, 153, 154, 155, 156, 157, 158, 159, 160, 161, 162, 163, 164, 199, 221]
def AE (f : Nat) : Bool := Cg.contains f
theorem Ch : ∀ f ∈ Cg, ∀ (args : Array Value) (w : World), (callFunc f args).run Tryz.prog w = .ok (.enter f args) w := by
 simp only [Cg, List.forall_mem_cons]
 exact ⟨Tryz.call2, Tryz.call3, Tryz.call4, Tryz.call5, Tryz.call6, Tryz.call7, Tryz.call8, Tryz.call9, Tryz.call10, Tryz.call11, Tryz.call12, Tryz.call13, Tryz.call14, Tryz.call15, Tryz.call16, Tryz.call17, Tryz.call18, Tryz.call19, Tryz.call20, Tryz.call21, Tryz.call22, Tryz.call23, Tryz.call24, Tryz.call25, Tryz.call26, Tryz.call27, Tryz.call28, Tryz.call29, Tryz.call30, Tryz.call31, Tryz.call32, Tryz.call33, Tryz.call34, Tryz.call35, Tryz.call36, Tryz.call37, Tryz.call38, Tryz.call39, Tryz.call40, Tryz.call41, Tryz.call42, Tryz.call43, Tryz.call44, Tryz.call45, Tryz.call46, Tryz.call47, Tryz.call48, Tryz.call49, Tryz.call50, Tryz.call51, Tryz.call52, Tryz.call53, Tryz.call54, Tryz.call55, Tryz.call56, Tryz.call57, Tryz.call58, Tryz.call59, Tryz.call60, Tryz.call61, Tryz.call62, Tryz.call63, Tryz.call64, Tryz.call65, Tryz.call66, Tryz.call67, Tryz.call68, Tryz.call69, Tryz.call70, Tryz.call71, Tryz.call72, Tryz.call73, Tryz.call74, Tryz.call75, Tryz.call76, Tryz.call77, Tryz.call78, Tryz.call79, Tryz.call80, Tryz.call81, Tryz.call83, Tryz.call84, Tryz.call85, Tryz.call86, Tryz.call87, Tryz.call88, Tryz.call89, Tryz.call90, Tryz.call91, Tryz.call92, Tryz.call93, Tryz.call94, Tryz.call95, Tryz.call96, Tryz.call97, Tryz.call98, Tryz.call99, Tryz.call100, Tryz.call101, Tryz.call102, Tryz.call103, Tryz.call104, Tryz.call105, Tryz.call106, Tryz.call107, Tryz.call108, Tryz.call109, Tryz.call110, Tryz.call111, Tryz.call112, Tryz.call113, Tryz.call114, Tryz.call115, Tryz.call116, Tryz.call117, Tryz.call118, Tryz.call119, Tryz.call120, Tryz.call121, Tryz.call122, Tryz.call123, Tryz.call124, Tryz.call125, Tryz.call126, Tryz.call127, Tryz.call128, Tryz.call129, Tryz.call130, Tryz.call131, Tryz.call132, Tryz.call133, Tryz.call134, Tryz.call135, Tryz.call136, Tryz.call137, Tryz.call138, Tryz.call139, Tryz.call140, Tryz.call141, Tryz.call142, Tryz.call143, Tryz.call144, Tryz.call145, Tryz.call146, Tryz.call147, Tryz.call148, Tryz.call149, Tryz.call150, Tryz.call151, Tryz.call152, Tryz.call153, Tryz.call154, Tryz.call155, Tryz.call156, Tryz.call157, Tryz.call158, Tryz.call159, Tryz.call160, Tryz.call161, Tryz.call162, Tryz.call163, Tryz.call164, Tryz.call199, Tryz.call221, by simp⟩
theorem ah : du Tryz.prog AE := fun f args w h => Ch f (by simpa [AE] using h) args w
theorem mixed : Tryz.prog.follows .mixedOrders = true := by kernel_rfl
abbrev cW : Nat := 4
abbrev dT : Nat := 6
abbrev dU : Nat := 7
abbrev dO : Nat := 9
abbrev fN : Nat := 12
abbrev ew : Nat := 13
abbrev fv : Nat := 14
abbrev bm : Nat := 15
abbrev eU : Nat := 16
abbrev bV : Nat := 17
abbrev eL : Nat := 18
abbrev fC : Nat := 19
abbrev ey : Nat := 20
abbrev bq : Nat := 21
abbrev fO : Nat := 22
abbrev bf : Nat := 23
abbrev jP : Nat := 32
abbrev ja : Nat := 33
abbrev rL : Nat := 34
abbrev eM : Nat := 35
abbrev jb : Nat := 36
abbrev dB : Nat := 37
abbrev dh : Nat := 38
abbrev ar : Nat := 39
abbrev iM : Nat := 40
abbrev gq : Nat := 41
abbrev dV : Nat := 42
abbrev gr : Nat := 43
abbrev cu : Nat := 44
abbrev cC : Nat := 50
abbrev mQ : Nat := 51
abbrev bW : Nat := 52
abbrev ez : Nat := 53
abbrev aF : Nat := 54
abbrev bC : Nat := 55
abbrev dC : Nat := 56
abbrev jc : Nat := 65
abbrev cP : Nat := 66
abbrev eO : Nat := 67
abbrev gu : Nat := 68
abbrev dP : Nat := 69
abbrev lD : Nat := 70
abbrev jd : Nat := 71
abbrev aO : Nat := 72
abbrev fI : Nat := 73
abbrev cI : Nat := 74
abbrev fe : Nat := 75
abbrev dj : Nat := 76
abbrev fP : Nat := 77
abbrev gv : Nat := 78
abbrev gw : Nat := 79
abbrev gx : Nat := 80
abbrev gy : Nat := 81
abbrev dm : Nat := 84
abbrev fw : Nat := 85
abbrev fE : Nat := 86
abbrev gz : Nat := 87
abbrev bG : Nat := 92
abbrev eA : Nat := 93
abbrev cH : Nat := 96
abbrev cX : Nat := 100
abbrev bM : Nat := 101
abbrev fQ : Nat := 102
abbrev gA : Nat := 103
abbrev bX : Nat := 104
abbrev gC : Nat := 105
abbrev fR : Nat := 106
abbrev eB : Nat := 107
abbrev eV : Nat := 108
abbrev jQ : Nat := 109
abbrev ji : Nat := 110
abbrev aS : Nat := 111
abbrev cG : Nat := 112
abbrev cY : Nat := 113
abbrev cL : Nat := 114
abbrev ff : Nat := 115
abbrev dx : Nat := 116
abbrev fS : Nat := 117
abbrev bJ : Nat := 118
abbrev cU : Nat := 119
abbrev cV : Nat := 120
abbrev km : Nat := 121
abbrev eQ : Nat := 125
abbrev eC : Nat := 128
abbrev fF : Nat := 129
abbrev bN : Nat := 130
abbrev dJ : Nat := 131
abbrev fx : Nat := 132
abbrev bQ : Nat := 133
abbrev iz : Nat := 134
abbrev lE : Nat := 135
abbrev iA : Nat := 136
abbrev eD : Nat := 137
abbrev cZ : Nat := 138
abbrev eE : Nat := 139
abbrev fT : Nat := 140
abbrev fy : Nat := 141
abbrev eF : Nat := 142
abbrev dD : Nat := 143
abbrev fK : Nat := 144
abbrev aX : Nat := 145
abbrev dk : Nat := 146
abbrev da : Nat := 147
abbrev fg : Nat := 148
abbrev cg : Nat := 149
abbrev bO : Nat := 150
abbrev dc : Nat := 151
abbrev gE : Nat := 152
abbrev gh : Nat := 153
abbrev dE : Nat := 154
abbrev bu : Nat := 155
abbrev fU : Nat := 157
abbrev bY : Nat := 158
abbrev fh : Nat := 159
abbrev dQ : Nat := 160
abbrev gF : Nat := 161
abbrev cz : Nat := 163
abbrev fi : Nat := 164
abbrev fj : Nat := 0
abbrev aE : Nat := 1
abbrev bP : Nat := 2
abbrev bw : Nat := 3
abbrev av : Nat := 4
abbrev ie : Nat := 5
abbrev oS : Nat := 6
abbrev oT : Nat := 7
abbrev cQ : Nat := 8
abbrev eJ : Nat := 9
abbrev dt : Nat := 10
abbrev cS : Nat := 11
abbrev fV : Nat := 12
abbrev gi : Nat := 13
abbrev mS : Nat := 14
abbrev ig : Nat := 15
abbrev fk : Nat := 16
abbrev mT : Nat := 17
abbrev mU : Nat := 18
abbrev rM : Nat := 252
abbrev lF : Nat := 105
end Go.D

