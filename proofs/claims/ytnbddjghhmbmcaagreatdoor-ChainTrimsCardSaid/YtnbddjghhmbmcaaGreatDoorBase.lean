/-
  WHAT IS PROVED: the calls and globals of this program. No further conditions.
-/
import Derived.Test.YtnbddjghhmbmcaaGreatDoorMem
import Derived.Test.YtnbddjghhmbmcaaGreatDoorProg
import Derived.KernelRfl
set_option linter.unusedSimpArgs false
set_option maxRecDepth 100000
set_option linter.unusedVariables false
namespace Go.D
open Go Go.Proofs
def Bd : List Nat := [2, 3, 4, 5, 6, 7, 8, 9, 10, 11, 12, 13, 14, 15, 16, 17, 18, 19, 20, 21, 22, 23, 24, 25, 26, 27, 28, 29, 30, 31, 32, 33, 34, 35, 36, 37, 38, 39, 40, 41, 42, 43, 44, 45, 46, 47, 48, 49, 50, 51, 52, 53, 54, 55, 56, 57, 59, 60, 61, 62, 63, 64, 65, 66, 67, 68, 69, 70, 71, 72, 73, 74, 75, 76, 77, 78, 79, 80, 81, 82, 83, 84, 85, 86, 87, 88, 89, 90, 91, 92, 93, 94, 95, 96, 97, 98, 99, 100, 101, 102, 103, 104, 105, 106, 107, 108, 109, 110, 111, 112, 113, 114, 115, 116, 117, 118, 119, 120, 121, 122, 123, 124, 125, 126, 127, 128, 129, 130, 131, 132, 133, 134, 135, 136, 137, 138, 139, 140, 141, 142, 143, 144, 145, 146, 147, 148, 149, 150, 151, 152, 153, 154, 155, 156, 157, 158, 159, 160, 161, 162, 163, 164, 198, 220]
def zt (f : Nat) : Bool := Bd.contains f
theorem Be : ∀ f ∈ Bd, ∀ (args : Array Value) (w : World), (callFunc f args).run Tryz.prog w = .ok (.enter f args) w := by
 simp only [Bd, List.forall_mem_cons]
 exact ⟨Tryz.call2, Tryz.call3, Tryz.call4, Tryz.call5, Tryz.call6, Tryz.call7, Tryz.call8, Tryz.call9, Tryz.call10, Tryz.call11, Tryz.call12, Tryz.call13, Tryz.call14, Tryz.call15, Tryz.call16, Tryz.call17, Tryz.call18, Tryz.call19, Tryz.call20, Tryz.call21, Tryz.call22, Tryz.call23, Tryz.call24, Tryz.call25, Tryz.call26, Tryz.call27, Tryz.call28, Tryz.call29, Tryz.call30, Tryz.call31, Tryz.call32, Tryz.call33, Tryz.call34, Tryz.call35, Tryz.call36, Tryz.call37, Tryz.call38, Tryz.call39, Tryz.call40, Tryz.call41, Tryz.call42, Tryz.call43, Tryz.call44, Tryz.call45, Tryz.call46, Tryz.call47, Tryz.call48, Tryz.call49, Tryz.call50, Tryz.call51, Tryz.call52, Tryz.call53, Tryz.call54, Tryz.call55, Tryz.call56, Tryz.call57, Tryz.call59, Tryz.call60, Tryz.call61, Tryz.call62, Tryz.call63, Tryz.call64, Tryz.call65, Tryz.call66, Tryz.call67, Tryz.call68, Tryz.call69, Tryz.call70, Tryz.call71, Tryz.call72, Tryz.call73, Tryz.call74, Tryz.call75, Tryz.call76, Tryz.call77, Tryz.call78, Tryz.call79, Tryz.call80, Tryz.call81, Tryz.call82, Tryz.call83, Tryz.call84, Tryz.call85, Tryz.call86, Tryz.call87, Tryz.call88, Tryz.call89, Tryz.call90, Tryz.call91, Tryz.call92, Tryz.call93, Tryz.call94, Tryz.call95, Tryz.call96, Tryz.call97, Tryz.call98, Tryz.call99, Tryz.call100, Tryz.call101, Tryz.call102, Tryz.call103, Tryz.call104, Tryz.call105, Tryz.call106, Tryz.call107, Tryz.call108, Tryz.call109, Tryz.call110, Tryz.call111, Tryz.call112, Tryz.call113, Tryz.call114, Tryz.call115, Tryz.call116, Tryz.call117, Tryz.call118, Tryz.call119, Tryz.call120, Tryz.call121, Tryz.call122, Tryz.call123, Tryz.call124, Tryz.call125, Tryz.call126, Tryz.call127, Tryz.call128, Tryz.call129, Tryz.call130, Tryz.call131, Tryz.call132, Tryz.call133, Tryz.call134, Tryz.call135, Tryz.call136, Tryz.call137, Tryz.call138, Tryz.call139, Tryz.call140, Tryz.call141, Tryz.call142, Tryz.call143, Tryz.call144, Tryz.call145, Tryz.call146, Tryz.call147, Tryz.call148, Tryz.call149, Tryz.call150, Tryz.call151, Tryz.call152, Tryz.call153, Tryz.call154, Tryz.call155, Tryz.call156, Tryz.call157, Tryz.call158, Tryz.call159, Tryz.call160, Tryz.call161, Tryz.call162, Tryz.call163, Tryz.call164, Tryz.call198, Tryz.call220, by simp⟩
theorem ag : cP Tryz.prog zt := fun f args w h => Be f (by simpa [zt] using h) args w
theorem mixed : Tryz.prog.follows .mixedOrders = true := by kernel_rfl
abbrev cl : Nat := 3
abbrev dz : Nat := 5
abbrev dP : Nat := 6
abbrev ef : Nat := 7
abbrev dA : Nat := 8
abbrev jI : Nat := 9
abbrev fS : Nat := 10
abbrev gJ : Nat := 11
abbrev jJ : Nat := 12
abbrev bk : Nat := 13
abbrev cd : Nat := 15
abbrev jK : Nat := 16
abbrev lK : Nat := 17
abbrev cn : Nat := 18
abbrev dZ : Nat := 19
abbrev fp : Nat := 20
abbrev jc : Nat := 21
abbrev ei : Nat := 22
abbrev dm : Nat := 23
abbrev ky : Nat := 24
abbrev dB : Nat := 25
abbrev cN : Nat := 26
abbrev ea : Nat := 27
abbrev cg : Nat := 28
abbrev bE : Nat := 29
abbrev eW : Nat := 30
abbrev iC : Nat := 31
abbrev fT : Nat := 32
abbrev mZ : Nat := 33
abbrev jd : Nat := 44
abbrev ij : Nat := 45
abbrev eo : Nat := 46
abbrev kz : Nat := 47
abbrev cV : Nat := 48
abbrev aW : Nat := 49
abbrev bY : Nat := 50
abbrev eG : Nat := 51
abbrev fq : Nat := 52
abbrev jL : Nat := 53
abbrev fu : Nat := 54
abbrev eH : Nat := 55
abbrev cu : Nat := 56
abbrev aK : Nat := 57
abbrev dq : Nat := 60
abbrev dt : Nat := 61
abbrev eI : Nat := 62
abbrev ik : Nat := 77
abbrev cq : Nat := 78
abbrev eu : Nat := 79
abbrev fU : Nat := 80
abbrev bx : Nat := 81
abbrev fv : Nat := 82
abbrev aZ : Nat := 83
abbrev gz : Nat := 84
abbrev eA : Nat := 85
abbrev bL : Nat := 86
abbrev dC : Nat := 87
abbrev gA : Nat := 88
abbrev gO : Nat := 89
abbrev dQ : Nat := 90
abbrev dR : Nat := 91
abbrev fw : Nat := 92
abbrev cv : Nat := 102
abbrev bz : Nat := 103
abbrev fx : Nat := 104
abbrev fV : Nat := 105
abbrev bF : Nat := 106
abbrev fW : Nat := 107
abbrev fy : Nat := 108
abbrev dS : Nat := 109
abbrev kA : Nat := 110
abbrev cx : Nat := 111
abbrev fk : Nat := 112
abbrev fX : Nat := 113
abbrev br : Nat := 114
abbrev gP : Nat := 115
abbrev fz : Nat := 116
abbrev fY : Nat := 117
abbrev fR : Nat := 118
abbrev eb : Nat := 119
abbrev fl : Nat := 120
abbrev fh : Nat := 121
abbrev gB : Nat := 122
abbrev fC : Nat := 124
abbrev eX : Nat := 125
abbrev fm : Nat := 126
abbrev cz : Nat := 127
abbrev eJ : Nat := 128
abbrev bJ : Nat := 129
abbrev bA : Nat := 130
abbrev cA : Nat := 131
abbrev fZ : Nat := 132
abbrev cW : Nat := 133
abbrev dT : Nat := 136
abbrev fc : Nat := 137
abbrev bB : Nat := 138
abbrev dg : Nat := 139
abbrev bR : Nat := 140
abbrev bC : Nat := 141
abbrev gQ : Nat := 142
abbrev iD : Nat := 143
abbrev aO : Nat := 144
abbrev fE : Nat := 150
abbrev bG : Nat := 151
abbrev eK : Nat := 152
abbrev du : Nat := 153
abbrev ga : Nat := 154
abbrev dU : Nat := 155
abbrev cX : Nat := 156
abbrev aS : Nat := 157
abbrev cH : Nat := 158
abbrev bS : Nat := 160
abbrev eL : Nat := 161
abbrev bg : Nat := 162
abbrev cO : Nat := 0
abbrev aD : Nat := 1
abbrev av : Nat := 2
abbrev fN : Nat := 3
abbrev gC : Nat := 4
abbrev uA : Nat := 5
abbrev rU : Nat := 6
abbrev rV : Nat := 7
abbrev gb : Nat := 8
abbrev da : Nat := 9
abbrev db : Nat := 10
abbrev cB : Nat := 11
abbrev iE : Nat := 12
abbrev lL : Nat := 13
abbrev qt : Nat := 14
abbrev iF : Nat := 15
abbrev fO : Nat := 16
abbrev qu : Nat := 17
abbrev qv : Nat := 18
abbrev wG : Nat := 232
end Go.D

