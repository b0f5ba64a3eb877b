/-
  WHAT IS PROVED: the calls and globals of this program. No further conditions.
-/
import Derived.Test.YtfnibbccnbmkoaaDoorMem
import Derived.Test.YtfnibbccnbmkoaaDoorProg
import Derived.KernelRfl
set_option linter.unusedSimpArgs false
set_option maxRecDepth 100000
set_option linter.unusedVariables false
namespace Go.D
open Go Go.Proofs
def mC : List Nat := [2, 3, 4, 5, 6, 7, 8, 9, 10, 11, 12, 13, 14, 15, 16, 17, 18, 19, 20, 21, 22, 23, 24, 25, 26, 27, 28, 29, 30, 31, 32, 33, 34, 35, 36, 37, 38, 39, 40, 41, 42, 43, 44, 45, 46, 47, 48, 49, 50, 51, 52, 53, 69, 72, 73, 74, 75, 76, 77, 78, 79, 80, 81, 84, 87, 90, 96, 105]
def jG (f : Nat) : Bool := mC.contains f
theorem mD : ∀ f ∈ mC, ∀ (args : Array Value) (w : World), (callFunc f args).run Tryd.prog w = .ok (.enter f args) w := by
 simp only [mC, List.forall_mem_cons]
 exact ⟨Tryd.call2, Tryd.call3, Tryd.call4, Tryd.call5, Tryd.call6, Tryd.call7, Tryd.call8, Tryd.call9, Tryd.call10, Tryd.call11, Tryd.call12, Tryd.call13, Tryd.call14, Tryd.call15, Tryd.call16, Tryd.call17, Tryd.call18, Tryd.call19, Tryd.call20, Tryd.call21, Tryd.call22, Tryd.call23, Tryd.call24, Tryd.call25, Tryd.call26, Tryd.call27, Tryd.call28, Tryd.call29, Tryd.call30, Tryd.call31, Tryd.call32, Tryd.call33, Tryd.call34, Tryd.call35, Tryd.call36, Tryd.call37, Tryd.call38, Tryd.call39, Tryd.call40, Tryd.call41, Tryd.call42, Tryd.call43, Tryd.call44, Tryd.call45, Tryd.call46, Tryd.call47, Tryd.call48, Tryd.call49, Tryd.call50, Tryd.call51, Tryd.call52, Tryd.call53, Tryd.call69, Tryd.call72, Tryd.call73, Tryd.call74, Tryd.call75, Tryd.call76, Tryd.call77, Tryd.call78, Tryd.call79, Tryd.call80, Tryd.call81, Tryd.call84, Tryd.call87, Tryd.call90, Tryd.call96, Tryd.call105, by simp⟩
theorem aw : aX Tryd.prog jG := fun f args w h => mD f (by simpa [jG] using h) args w
theorem mixed : Tryd.prog.follows .mixedOrders = true := by kernel_rfl
abbrev bB : Nat := 4
abbrev bg : Nat := 5
abbrev ct : Nat := 7
abbrev bU : Nat := 10
abbrev bH : Nat := 12
abbrev cD : Nat := 13
abbrev bh : Nat := 14
abbrev a5 : Nat := 15
abbrev bq : Nat := 16
abbrev a9 : Nat := 18
abbrev bI : Nat := 19
abbrev br : Nat := 20
abbrev bJ : Nat := 21
abbrev cL : Nat := 22
abbrev aY : Nat := 23
abbrev av : Nat := 24
abbrev cp : Nat := 25
abbrev aB : Nat := 28
abbrev aR : Nat := 29
abbrev dW : Nat := 30
abbrev dX : Nat := 31
abbrev aD : Nat := 32
abbrev cb : Nat := 33
abbrev bR : Nat := 34
abbrev bV : Nat := 35
abbrev bS : Nat := 36
abbrev bm : Nat := 37
abbrev bP : Nat := 38
abbrev b7 : Nat := 39
abbrev bW : Nat := 41
abbrev dF : Nat := 45
abbrev cM : Nat := 75
abbrev bt : Nat := 76
abbrev bj : Nat := 90
abbrev bK : Nat := 0
abbrev eK : Nat := 1
abbrev kr : Nat := 2
abbrev jH : Nat := 3
abbrev ku : Nat := 4
abbrev kx : Nat := 5
abbrev ky : Nat := 100003
abbrev lK : Nat := 100004
abbrev iP : Nat := 100007
abbrev g7 : Nat := 100008
abbrev fS : Nat := 100009
abbrev g9 : Nat := 100010
abbrev kz : Nat := 100011
abbrev jI : Nat := 100013
abbrev jJ : Nat := 100014
abbrev kA : Nat := 100015
abbrev jK : Nat := 100016
abbrev jL : Nat := 100017
abbrev jM : Nat := 100018
abbrev jN : Nat := 130
abbrev bk : Nat := 54
abbrev ca : Nat := 64
abbrev cZ : Nat := 117
abbrev ckSx (o : Option Value) (y : Slc) : Prop := ∃ s : Slc, o = some (Slc.v s) /\ Slc.v s = Slc.v y
abbrev ckIx (k : IntKind) (o : Option Value) (y : Int) : Prop := ∃ n : Int, o = some (.int k n) /\ Value.int k n = Value.int k y
abbrev ckTx (o : Option Value) (y : List UInt8) : Prop := ∃ t : List UInt8, o = some (ak t) /\ ak t = ak y
abbrev ckBx (w : World) (s : Slc) (y : List UInt8) : Prop := ∃ t : List UInt8, ag w s t /\ ak t = ak y
abbrev ckPx (o : Option Value) (y : Option Addr) : Prop := ∃ p : Option Addr, o = some (.pointer p) /\ Value.pointer p = Value.pointer y
abbrev ckRx (w : World) (a : Addr) (y : Int) (z : Slc) : Prop := ∃ (n : Int) (s : Slc), rowAt w a 0 [.int .i64 n, Slc.v s] /\ Value.agg ⟨[.int .i64 n, Slc.v s]⟩ = Value.agg ⟨[.int .i64 y, Slc.v z]⟩
end Go.D

