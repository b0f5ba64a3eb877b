/-
  WHAT IS PROVED: the calls and globals of this program. No further conditions.
-/
import Derived.Test.YtfnibbccnbmkoaaDoorMem
import Derived.Test.YtfnibbccnbmkoaaDoorProg
import Derived.KernelRfl
set_option linter.unusedSimpArgs false
set_option maxRecDepth 100000
set_option linter.unusedVariables false
namespace Go.D
open Go Go.Proofs
def p6 : List Nat := [2, 3, 4, 5, 6, 7, 8, 9, 10, 11, 12, 13, 14, 15, 16, 17, 18, 19, 20, 21, 22, 23, 24, 25, 26, 27, 28, 29, 30, 31, 32, 33, 34, 35, 36, 37, 38, 39, 40, 41, 42, 43, 44, 45, 46, 47, 48, 49, 50, 51, 52, 53, 69, 72, 73, 74, 75, 76, 77, 78, 79, 80, 81, 84, 87, 90, 96, 105]
def mB (f : Nat) : Bool := p6.contains f
theorem p8 : ∀ f ∈ p6, ∀ (args : Array Value) (w : World), (callFunc f args).run Tryd.prog w = .ok (.enter f args) w := by
 simp only [p6, List.forall_mem_cons]
 exact ⟨Tryd.call2, Tryd.call3, Tryd.call4, Tryd.call5, Tryd.call6, Tryd.call7, Tryd.call8, Tryd.call9, Tryd.call10, Tryd.call11, Tryd.call12, Tryd.call13, Tryd.call14, Tryd.call15, Tryd.call16, Tryd.call17, Tryd.call18, Tryd.call19, Tryd.call20, Tryd.call21, Tryd.call22, Tryd.call23, Tryd.call24, Tryd.call25, Tryd.call26, Tryd.call27, Tryd.call28, Tryd.call29, Tryd.call30, Tryd.call31, Tryd.call32, Tryd.call33, Tryd.call34, Tryd.call35, Tryd.call36, Tryd.call37, Tryd.call38, Tryd.call39, Tryd.call40, Tryd.call41, Tryd.call42, Tryd.call43, Tryd.call44, Tryd.call45, Tryd.call46, Tryd.call47, Tryd.call48, Tryd.call49, Tryd.call50, Tryd.call51, Tryd.call52, Tryd.call53, Tryd.call69, Tryd.call72, Tryd.call73, Tryd.call74, Tryd.call75, Tryd.call76, Tryd.call77, Tryd.call78, Tryd.call79, Tryd.call80, Tryd.call81, Tryd.call84, Tryd.call87, Tryd.call90, Tryd.call96, Tryd.call105, by simp⟩
theorem aj : bO Tryd.prog mB := fun f args w h => p8 f (by simpa [mB] using h) args w
theorem mixed : Tryd.prog.follows .mixedOrders = true := by kernel_rfl
abbrev cz : Nat := 3
abbrev cf : Nat := 5
abbrev cg : Nat := 6
abbrev dJ : Nat := 7
abbrev bD : Nat := 8
abbrev bE : Nat := 9
abbrev eb : Nat := 10
abbrev bT : Nat := 11
abbrev dm : Nat := 12
abbrev ec : Nat := 13
abbrev cj : Nat := 14
abbrev bU : Nat := 15
abbrev ak : Nat := 16
abbrev cF : Nat := 17
abbrev bV : Nat := 18
abbrev cO : Nat := 19
abbrev cA : Nat := 20
abbrev cP : Nat := 21
abbrev ey : Nat := 22
abbrev bP : Nat := 23
abbrev aF : Nat := 24
abbrev bG : Nat := 25
abbrev cm : Nat := 26
abbrev bW : Nat := 27
abbrev aO : Nat := 28
abbrev bF : Nat := 29
abbrev gr : Nat := 30
abbrev gu : Nat := 31
abbrev aS : Nat := 32
abbrev bo : Nat := 33
abbrev aT : Nat := 34
abbrev aZ : Nat := 35
abbrev aV : Nat := 36
abbrev aG : Nat := 37
abbrev cV : Nat := 38
abbrev bj : Nat := 39
abbrev cw : Nat := 41
abbrev au : Nat := 42
abbrev du : Nat := 43
abbrev cG : Nat := 44
abbrev fI : Nat := 45
abbrev aM : Nat := 46
abbrev bX : Nat := 47
abbrev cn : Nat := 48
abbrev aA : Nat := 49
abbrev aH : Nat := 50
abbrev aI : Nat := 52
abbrev ez : Nat := 75
abbrev cB : Nat := 76
abbrev cp : Nat := 90
abbrev cQ : Nat := 0
abbrev gX : Nat := 1
abbrev nB : Nat := 2
abbrev mC : Nat := 3
abbrev nC : Nat := 4
abbrev nD : Nat := 5
abbrev nE : Nat := 100003
abbrev oZ : Nat := 100004
abbrev lI : Nat := 100007
abbrev kD : Nat := 100008
abbrev jf : Nat := 100009
abbrev kE : Nat := 100010
abbrev nF : Nat := 100011
abbrev mD : Nat := 100013
abbrev mE : Nat := 100014
abbrev nG : Nat := 100015
abbrev mF : Nat := 100016
abbrev mG : Nat := 100017
abbrev mH : Nat := 100018
abbrev mI : Nat := 130
abbrev dn : Nat := 64
abbrev eQ : Nat := 117
abbrev ckSx (o : Option Value) (y : Slc) : Prop := ∃ s : Slc, o = some (Slc.v s) /\ Slc.v s = Slc.v y
abbrev ckIx (k : IntKind) (o : Option Value) (y : Int) : Prop := ∃ n : Int, o = some (.int k n) /\ Value.int k n = Value.int k y
abbrev ckTx (o : Option Value) (y : List UInt8) : Prop := ∃ t : List UInt8, o = some (aq t) /\ aq t = aq y
abbrev ckBx (w : World) (s : Slc) (y : List UInt8) : Prop := ∃ t : List UInt8, ar w s t /\ aq t = aq y
abbrev ckPx (o : Option Value) (y : Option Addr) : Prop := ∃ p : Option Addr, o = some (.pointer p) /\ Value.pointer p = Value.pointer y
abbrev ckRx (w : World) (a : Addr) (y : Int) (z : Slc) : Prop := ∃ (n : Int) (s : Slc), rowAt w a 0 [.int .i64 n, Slc.v s] /\ Value.agg ⟨[.int .i64 n, Slc.v s]⟩ = Value.agg ⟨[.int .i64 y, Slc.v z]⟩
end Go.D

