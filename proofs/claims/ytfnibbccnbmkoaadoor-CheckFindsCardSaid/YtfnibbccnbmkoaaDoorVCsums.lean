/-
  WHAT IS PROVED: verification conditions of functions of this program, each with its soundness. No further conditions.
-/
import Derived.Test.YtfnibbccnbmkoaaDoorBase
set_option linter.unusedSimpArgs false
set_option maxRecDepth 100000
set_option linter.unusedVariables false
namespace Go.D
open Go Go.Proofs
def kT (s1 : Int) (c2 : Int) (w : World) (K : Value -> World -> Prop) : Prop :=
  inR .u32 c2 /\
  0 <= s1 /\ 0 <= c2 /\ inR .u32 s1 /\ inR .u32 c2 /\
  ∃ (I3 : (Int) -> (Int) -> World -> Prop) (mu4 : (Int) -> (Int) -> World -> Nat), I3 ((bitsI .xor s1 c2)) ((0 : Int)) w /\ (
  ∀ s5 : Int, ∀ i6 : Int, ∀ w7 : World, I3 s5 i6 w7 -> ∀ _ _ _ _ _ _ _ _ _ _ _ : Value,
  BIf (decide (i6 < 8)) (
  0 <= s5 /\ 0 <= (1 : Int) /\ inR .u32 s5 /\ inR .u32 (1 : Int) /\
  0 <= (1 : Int) /\ 0 <= s5 /\
  BIf (decide ((bitsI .and s5 (1 : Int)) = (1 : Int))) (
  0 <= (s5 / 2) /\ 0 <= (3988292384 : Int) /\ inR .u32 (s5 / 2) /\ inR .u32 (3988292384 : Int) /\
  inR .i64 (i6 + 1) /\
  (I3 ((bitsI .xor (s5 / 2) (3988292384 : Int))) ((i6 + 1)) w7 /\ mu4 ((bitsI .xor (s5 / 2) (3988292384 : Int))) ((i6 + 1)) w7 < mu4 s5 i6 w7)) (
  inR .i64 (i6 + 1) /\
  (I3 ((s5 / 2)) ((i6 + 1)) w7 /\ mu4 ((s5 / 2)) ((i6 + 1)) w7 < mu4 s5 i6 w7))) (
  K (.int .u32 s5) w7))
theorem lJ (s1 : Int) (c2 : Int) {w : World} {R : Ending -> World -> Prop} (h : kT s1 c2 w fun v w' => R (.returned v) w') : Calls Tryd.prog fI ⟨[(.int .u32 s1), (.int .u8 c2)]⟩ w R :=
  ae (ann := (.two .none (.two .none (.two (.two .none (.one (.loop [(0, (Sh.int .u32)), (10, (Sh.int .i64))] ([5] ++ List.range' 11 10) .none))) .none)))) aj mixed Tryd.func45 (Eq.mp (by kernel_rfl) h)
def mM (parts1 : Slc) (w : World) (K : Value -> World -> Prop) : Prop :=
  ∃ (I2 : (Int) -> (Int) -> World -> Prop) (mu3 : (Int) -> (Int) -> World -> Nat), I2 ((4294967295 : Int)) ((0 : Int)) w /\ (
  ∀ s4 : Int, ∀ i5 : Int, ∀ w6 : World, I2 s4 i5 w6 -> ∀ _ _ _ _ _ _ _ _ _ _ _ _ _ _ _ _ : Value,
  BIf (decide (i5 < (parts1.l : Int))) (
  needSome parts1.p fun a23 =>
  0 <= i5 /\ i5 < (parts1.l : Int) /\
  ∃ s24, w6.cell? (Addr.add a23 ((Int.toNat i5) * 1)) = some (Slc.v s24) /\
  ∃ (I25 : (Int) -> (Int) -> World -> Prop) (mu26 : (Int) -> (Int) -> World -> Nat), I25 (s4) ((0 : Int)) w6 /\ (
  ∀ s27 : Int, ∀ i28 : Int, ∀ w29 : World, I25 s27 i28 w29 -> ∀ _ _ _ _ _ _ _ _ : Value,
  BIf (decide (i28 < (s24.l : Int))) (
  needSome s24.p fun a38 =>
  0 <= i28 /\ i28 < (s24.l : Int) /\
  ∃ n39, w29.cell? (Addr.add a38 ((Int.toNat i28) * 1)) = some (.int .u8 n39) /\
  Calls Tryd.prog fI ⟨[(.int .u32 s27), (.int .u8 n39)]⟩ w29 fun e40 w41 =>
  ∃ n42, e40 = .returned (.int .u32 n42) /\
  inR .i64 (i28 + 1) /\
  (I25 (n42) ((i28 + 1)) w41 /\ mu26 (n42) ((i28 + 1)) w41 < mu26 s27 i28 w29)) (
  inR .i64 (i5 + 1) /\
  (I2 (s27) ((i5 + 1)) w29 /\ mu3 (s27) ((i5 + 1)) w29 < mu3 s4 i5 w6)))) (
  0 <= s4 /\ inR .u32 s4 /\
  K (.int .u32 (bitsI .xor (IntKind.max .u32) s4)) w6))
theorem mN (parts1 : Slc) {w : World} {R : Ending -> World -> Prop} (h : mM parts1 w fun v w' => R (.returned v) w') : Calls Tryd.prog gr ⟨[parts1.v]⟩ w R :=
  ae (ann := (.two .none (.two .none (.two (.two .none (.one (.loop [(3, (Sh.int .u32)), (10, (Sh.int .i64))] ([5, 7] ++ List.range' 11 14) (.two .none (.two .none (.two (.one (.two .none (.two .none (.one (.loop [(3, (Sh.int .u32)), (16, (Sh.int .i64))] [7, 17, 18, 19, 20, 21, 22, 23] .none))))) .none)))))) .none)))) aj mixed Tryd.func30 (Eq.mp (by kernel_rfl) h)
def eB (b1 : Slc) (w : World) (K : Value -> World -> Prop) : Prop :=
  ∃ (I2 : (Int) -> (Int) -> World -> Prop) (mu3 : (Int) -> (Int) -> World -> Nat), I2 ((4294967295 : Int)) ((0 : Int)) w /\ (
  ∀ rest4 : Int, ∀ i5 : Int, ∀ w6 : World, I2 rest4 i5 w6 -> ∀ _ _ _ _ _ _ _ _ _ _ _ _ _ _ _ _ _ _ _ _ _ _ _ _ _ _ : Value,
  BIf (decide (i5 < (b1.l : Int))) (
  needSome b1.p fun a33 =>
  0 <= i5 /\ i5 < (b1.l : Int) /\
  ∃ n34, w6.cell? (Addr.add a33 ((Int.toNat i5) * 1)) = some (.int .u8 n34) /\
  ∃ (I35 : (Int) -> (Int) -> World -> Prop) (mu36 : (Int) -> (Int) -> World -> Nat), I35 (rest4) ((0 : Int)) w6 /\ (
  ∀ rest37 : Int, ∀ i38 : Int, ∀ w39 : World, I35 rest37 i38 w39 -> ∀ _ _ _ _ _ _ _ _ _ _ _ _ _ _ _ _ _ _ _ _ : Value,
  BIf (decide (i38 < 8)) (
  inR .u32 n34 /\
  0 <= (IntKind.wrap .u64 i38) /\ 0 <= n34 /\
  0 <= (n34 / ((2 ^ min (Int.toNat (IntKind.wrap .u64 i38)) 32 : Nat) : Int)) /\ 0 <= (1 : Int) /\ inR .u32 (n34 / ((2 ^ min (Int.toNat (IntKind.wrap .u64 i38)) 32 : Nat) : Int)) /\ inR .u32 (1 : Int) /\
  0 <= rest37 /\ 0 <= (1 : Int) /\ inR .u32 rest37 /\ inR .u32 (1 : Int) /\
  BIf (!decide ((bitsI .and rest37 (1 : Int)) = (bitsI .and (n34 / ((2 ^ min (Int.toNat (IntKind.wrap .u64 i38)) 32 : Nat) : Int)) (1 : Int)))) (
  0 <= (1 : Int) /\ 0 <= rest37 /\
  0 <= (rest37 / 2) /\ 0 <= (3988292384 : Int) /\ inR .u32 (rest37 / 2) /\ inR .u32 (3988292384 : Int) /\
  inR .i64 (i38 + 1) /\
  (I35 ((bitsI .xor (rest37 / 2) (3988292384 : Int))) ((i38 + 1)) w39 /\ mu36 ((bitsI .xor (rest37 / 2) (3988292384 : Int))) ((i38 + 1)) w39 < mu36 rest37 i38 w39)) (
  0 <= (1 : Int) /\ 0 <= rest37 /\
  inR .i64 (i38 + 1) /\
  (I35 ((rest37 / 2)) ((i38 + 1)) w39 /\ mu36 ((rest37 / 2)) ((i38 + 1)) w39 < mu36 rest37 i38 w39))) (
  inR .i64 (i5 + 1) /\
  (I2 (rest37) ((i5 + 1)) w39 /\ mu3 (rest37) ((i5 + 1)) w39 < mu3 rest4 i5 w6)))) (
  0 <= rest4 /\ 0 <= (4294967295 : Int) /\ inR .u32 rest4 /\ inR .u32 (4294967295 : Int) /\
  K (.int .u32 (bitsI .xor rest4 (4294967295 : Int))) w6))
theorem fY (b1 : Slc) {w : World} {R : Ending -> World -> Prop} (h : eB b1 w fun v w' => R (.returned v) w') : Calls Tryd.prog cG ⟨[b1.v]⟩ w R :=
  ae (ann := (.two .none (.two .none (.two (.two .none (.one (.loop [(3, (Sh.int .u32)), (10, (Sh.int .i64))] ([5, 6, 7] ++ List.range' 11 23) (.two .none (.two .none (.two (.one (.two .none (.two .none (.one (.loop [(3, (Sh.int .u32)), (6, (Sh.int .i64))] ([7] ++ List.range' 14 19) .none))))) .none)))))) .none)))) aj mixed Tryd.func44 (Eq.mp (by kernel_rfl) h)
def eT (s1 : Slc) (w : World) (K : Value -> World -> Prop) : Prop :=
  BIf (Option.isNone (s1.p : Option Addr)) (
  K (Slc.v ⟨none, 0, 0⟩) w) (
  aK w (.cells ⟨[]⟩ 5) fun r2 w3 =>
  bA 1 5 [(.int .u8 0)] w3 (⟨(some ⟨r2, 0, none⟩), 0, 0⟩ : Slc) (.slc s1) fun s4 w5 =>
  K (Slc.v s4) w5)
theorem gx (s1 : Slc) {w : World} {R : Ending -> World -> Prop} (h : eT s1 w fun v w' => R (.returned v) w') : Calls Tryd.prog cP ⟨[s1.v]⟩ w R :=
  ae (ann := .none) aj mixed Tryd.func21 (Eq.mp (by kernel_rfl) h)
end Go.D

