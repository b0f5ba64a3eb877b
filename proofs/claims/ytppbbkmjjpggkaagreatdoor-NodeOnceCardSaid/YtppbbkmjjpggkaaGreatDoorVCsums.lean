/-
  WHAT IS PROVED: verification conditions of functions of this program, each with its soundness. No further conditions.
-/
import Derived.Test.YtppbbkmjjpggkaaGreatDoorBase
set_option linter.unusedSimpArgs false
set_option maxRecDepth 100000
set_option linter.unusedVariables false
namespace Go.D
open Go Go.Proofs
def iz (s1 : Slc) (w : World) (K : Value -> World -> Prop) : Prop :=
  BIf (Option.isNone (s1.p : Option Addr)) (
  K (Slc.v ⟨none, 0, 0⟩) w) (
  aH w (.cells ⟨[]⟩ 5) fun r2 w3 =>
  aK 1 5 [(.int .u8 (0 : Int))] w3 (⟨(some ⟨r2, 0, none⟩), 0, 0⟩ : Slc) (.slc s1) fun s4 w5 =>
  K (Slc.v s4) w5)
theorem jh (s1 : Slc) {w : World} {R : Ending -> World -> Prop} (h : iz s1 w fun v w' => R (.returned v) w') : Calls Tryz.prog ar ⟨[(Slc.v s1)]⟩ w R :=
  ab (ann := .none) ah mixed Tryz.func39 (Eq.mp (by kernel_rfl) h)
def xS (s1 : Int) (c2 : Int) (w : World) (K : Value -> World -> Prop) : Prop :=
  inR .u32 c2 /\
  0 <= s1 /\ 0 <= c2 /\ inR .u32 s1 /\ inR .u32 c2 /\
  ∃ (I3 : (Int) -> (Int) -> World -> Prop) (mu4 : (Int) -> (Int) -> World -> Nat), I3 ((bitsI .xor s1 c2)) ((0 : Int)) w /\ (
  ∀ s5 : Int, ∀ i6 : Int, ∀ w7 : World, I3 s5 i6 w7 -> ∀ _ _ _ _ _ _ _ _ _ _ _ : Value,
  BIf (decide (i6 < (8 : Int))) (
  0 <= s5 /\ 0 <= (1 : Int) /\ inR .u32 s5 /\ inR .u32 (1 : Int) /\
  0 <= (1 : Int) /\ 0 <= s5 /\
  BIf (decide ((bitsI .and s5 (1 : Int)) = (1 : Int))) (
  0 <= (s5 / 2) /\ 0 <= (3988292384 : Int) /\ inR .u32 (s5 / 2) /\ inR .u32 (3988292384 : Int) /\
  inR .i64 (i6 + (1 : Int)) /\
  (I3 ((bitsI .xor (s5 / 2) (3988292384 : Int))) ((i6 + (1 : Int))) w7 /\ mu4 ((bitsI .xor (s5 / 2) (3988292384 : Int))) ((i6 + (1 : Int))) w7 < mu4 s5 i6 w7)) (
  inR .i64 (i6 + (1 : Int)) /\
  (I3 ((s5 / 2)) ((i6 + (1 : Int))) w7 /\ mu4 ((s5 / 2)) ((i6 + (1 : Int))) w7 < mu4 s5 i6 w7))) (
  K (.int .u32 s5) w7))
theorem yS (s1 : Int) (c2 : Int) {w : World} {R : Ending -> World -> Prop} (h : xS s1 c2 w fun v w' => R (.returned v) w') : Calls Tryz.prog mD ⟨[(.int .u32 s1), (.int .u8 c2)]⟩ w R :=
  ab (ann := (.two .none (.two .none (.two (.two .none (.one (.loop [(0, (Sh.int .u32)), (10, (Sh.int .i64))] ([5] ++ List.range' 11 10) .none))) .none)))) ah mixed Tryz.func135 (Eq.mp (by kernel_rfl) h)
def Ai (parts1 : Slc) (w : World) (K : Value -> World -> Prop) : Prop :=
  ∃ (I2 : (Int) -> (Int) -> World -> Prop) (mu3 : (Int) -> (Int) -> World -> Nat), I2 ((4294967295 : Int)) ((0 : Int)) w /\ (
  ∀ s4 : Int, ∀ i5 : Int, ∀ w6 : World, I2 s4 i5 w6 -> ∀ _ _ _ _ _ _ _ _ _ _ _ _ _ _ _ _ : Value,
  BIf (decide (i5 < (parts1.l : Int))) (
  needSome parts1.p fun a23 =>
  0 <= i5 /\ i5 < (parts1.l : Int) /\
  ∃ s24, w6.cell? (Addr.add a23 ((Int.toNat i5) * 1)) = some (Slc.v s24) /\
  ∃ (I25 : (Int) -> (Int) -> World -> Prop) (mu26 : (Int) -> (Int) -> World -> Nat), I25 (s4) ((0 : Int)) w6 /\ (
  ∀ s27 : Int, ∀ i28 : Int, ∀ w29 : World, I25 s27 i28 w29 -> ∀ _ _ _ _ _ _ _ _ : Value,
  BIf (decide (i28 < (s24.l : Int))) (
  needSome s24.p fun a38 =>
  0 <= i28 /\ i28 < (s24.l : Int) /\
  ∃ n39, w29.cell? (Addr.add a38 ((Int.toNat i28) * 1)) = some (.int .u8 n39) /\
  Calls Tryz.prog mD ⟨[(.int .u32 s27), (.int .u8 n39)]⟩ w29 fun e40 w41 =>
  ∃ n42, e40 = .returned (.int .u32 n42) /\
  inR .i64 (i28 + (1 : Int)) /\
  (I25 (n42) ((i28 + (1 : Int))) w41 /\ mu26 (n42) ((i28 + (1 : Int))) w41 < mu26 s27 i28 w29)) (
  inR .i64 (i5 + (1 : Int)) /\
  (I2 (s27) ((i5 + (1 : Int))) w29 /\ mu3 (s27) ((i5 + (1 : Int))) w29 < mu3 s4 i5 w6)))) (
  0 <= s4 /\ inR .u32 s4 /\
  K (.int .u32 (bitsI .xor (IntKind.max .u32) s4)) w6))
theorem Aj (parts1 : Slc) {w : World} {R : Ending -> World -> Prop} (h : Ai parts1 w fun v w' => R (.returned v) w') : Calls Tryz.prog kI ⟨[(Slc.v parts1)]⟩ w R :=
  ab (ann := (.two .none (.two .none (.two (.two .none (.one (.loop [(3, (Sh.int .u32)), (10, (Sh.int .i64))] ([5, 7] ++ List.range' 11 14) (.two .none (.two .none (.two (.one (.two .none (.two .none (.one (.loop [(3, (Sh.int .u32)), (16, (Sh.int .i64))] [7, 17, 18, 19, 20, 21, 22, 23] .none))))) .none)))))) .none)))) ah mixed Tryz.func109 (Eq.mp (by kernel_rfl) h)
def j4 (b1 : Slc) (w : World) (K : Value -> World -> Prop) : Prop :=
  ∃ (I2 : (Int) -> (Int) -> World -> Prop) (mu3 : (Int) -> (Int) -> World -> Nat), I2 ((4294967295 : Int)) ((0 : Int)) w /\ (
  ∀ rest4 : Int, ∀ i5 : Int, ∀ w6 : World, I2 rest4 i5 w6 -> ∀ _ _ _ _ _ _ _ _ _ _ _ _ _ _ _ _ _ _ _ _ _ _ _ _ _ _ : Value,
  BIf (decide (i5 < (b1.l : Int))) (
  needSome b1.p fun a33 =>
  0 <= i5 /\ i5 < (b1.l : Int) /\
  ∃ n34, w6.cell? (Addr.add a33 ((Int.toNat i5) * 1)) = some (.int .u8 n34) /\
  ∃ (I35 : (Int) -> (Int) -> World -> Prop) (mu36 : (Int) -> (Int) -> World -> Nat), I35 (rest4) ((0 : Int)) w6 /\ (
  ∀ rest37 : Int, ∀ i38 : Int, ∀ w39 : World, I35 rest37 i38 w39 -> ∀ _ _ _ _ _ _ _ _ _ _ _ _ _ _ _ _ _ _ _ _ : Value,
  BIf (decide (i38 < (8 : Int))) (
  inR .u32 n34 /\
  0 <= (IntKind.wrap .u64 i38) /\ 0 <= n34 /\
  0 <= (n34 / ((2 ^ min (Int.toNat (IntKind.wrap .u64 i38)) 32 : Nat) : Int)) /\ 0 <= (1 : Int) /\ inR .u32 (n34 / ((2 ^ min (Int.toNat (IntKind.wrap .u64 i38)) 32 : Nat) : Int)) /\ inR .u32 (1 : Int) /\
  0 <= rest37 /\ 0 <= (1 : Int) /\ inR .u32 rest37 /\ inR .u32 (1 : Int) /\
  BIf (!decide ((bitsI .and rest37 (1 : Int)) = (bitsI .and (n34 / ((2 ^ min (Int.toNat (IntKind.wrap .u64 i38)) 32 : Nat) : Int)) (1 : Int)))) (
  0 <= (1 : Int) /\ 0 <= rest37 /\
  0 <= (rest37 / 2) /\ 0 <= (3988292384 : Int) /\ inR .u32 (rest37 / 2) /\ inR .u32 (3988292384 : Int) /\
  inR .i64 (i38 + (1 : Int)) /\
  (I35 ((bitsI .xor (rest37 / 2) (3988292384 : Int))) ((i38 + (1 : Int))) w39 /\ mu36 ((bitsI .xor (rest37 / 2) (3988292384 : Int))) ((i38 + (1 : Int))) w39 < mu36 rest37 i38 w39)) (
  0 <= (1 : Int) /\ 0 <= rest37 /\
  inR .i64 (i38 + (1 : Int)) /\
  (I35 ((rest37 / 2)) ((i38 + (1 : Int))) w39 /\ mu36 ((rest37 / 2)) ((i38 + (1 : Int))) w39 < mu36 rest37 i38 w39))) (
  inR .i64 (i5 + (1 : Int)) /\
  (I2 (rest37) ((i5 + (1 : Int))) w39 /\ mu3 (rest37) ((i5 + (1 : Int))) w39 < mu3 rest4 i5 w6)))) (
  0 <= rest4 /\ 0 <= (4294967295 : Int) /\ inR .u32 rest4 /\ inR .u32 (4294967295 : Int) /\
  K (.int .u32 (bitsI .xor rest4 (4294967295 : Int))) w6))
theorem nR (b1 : Slc) {w : World} {R : Ending -> World -> Prop} (h : j4 b1 w fun v w' => R (.returned v) w') : Calls Tryz.prog fp ⟨[(Slc.v b1)]⟩ w R :=
  ab (ann := (.two .none (.two .none (.two (.two .none (.one (.loop [(3, (Sh.int .u32)), (10, (Sh.int .i64))] ([5, 6, 7] ++ List.range' 11 23) (.two .none (.two .none (.two (.one (.two .none (.two .none (.one (.loop [(3, (Sh.int .u32)), (6, (Sh.int .i64))] ([7] ++ List.range' 14 19) .none))))) .none)))))) .none)))) ah mixed Tryz.func125 (Eq.mp (by kernel_rfl) h)
def vN (b1 : Slc) (w : World) (K : Value -> World -> Prop) : Prop :=
  BIf (decide ((2048 : Int) < (b1.l : Int))) (
  ∃ v2, w.drew.cell? ⟨bw, 0, none⟩ = some v2 /\
  K (.tuple ⟨[(Slc.v ⟨none, 0, 0⟩), v2]⟩) w.drew) (
  0 <= (8 : Int) /\ 0 <= (b1.l : Int) /\
  aH w (.cells ⟨[(.int .u8 (IntKind.wrap .u8 (b1.l : Int))), (.int .u8 (IntKind.wrap .u8 ((b1.l : Int) / 256)))]⟩ 5) fun r3 w4 =>
  aH w4 (.cells ⟨[(Slc.v (⟨(some ⟨r3, 0, none⟩), 2, 2⟩ : Slc)), (Slc.v b1)]⟩ 28) fun r5 w6 =>
  Calls Tryz.prog kI ⟨[(Slc.v (⟨(some ⟨r5, 0, none⟩), 2, 2⟩ : Slc))]⟩ w6 fun e7 w8 =>
  ∃ n9, e7 = .returned (.int .u32 n9) /\
  0 <= (8 : Int) /\ 0 <= n9 /\
  0 <= (16 : Int) /\ 0 <= n9 /\
  0 <= (24 : Int) /\ 0 <= n9 /\
  aH w8 (.cells ⟨[(.int .u8 (IntKind.wrap .u8 n9)), (.int .u8 (IntKind.wrap .u8 (n9 / 256))), (.int .u8 (IntKind.wrap .u8 (n9 / 65536))), (.int .u8 (IntKind.wrap .u8 (n9 / 16777216)))]⟩ 5) fun r10 w11 =>
  aK 1 5 [(.int .u8 (0 : Int))] w11 (⟨(some ⟨r3, 0, none⟩), 2, 2⟩ : Slc) (.slc (⟨(some ⟨r10, 0, none⟩), 4, 4⟩ : Slc)) fun s12 w13 =>
  aK 1 5 [(.int .u8 (0 : Int))] w13 s12 (.slc b1) fun s14 w15 =>
  K (.tuple ⟨[(Slc.v s14), .nilIface]⟩) w15)
theorem xo (b1 : Slc) {w : World} {R : Ending -> World -> Prop} (h : vN b1 w fun v w' => R (.returned v) w') : Calls Tryz.prog lx ⟨[(Slc.v b1)]⟩ w R :=
  ab (ann := .none) ah mixed Tryz.func121 (Eq.mp (by kernel_rfl) h)
def xU (b1 : Slc) (w : World) (K : Value -> World -> Prop) : Prop :=
  BIf (decide ((b1.l : Int) < (6 : Int))) (
  ∃ v2, w.drew.cell? ⟨ct, 0, none⟩ = some v2 /\
  K (.tuple ⟨[(Slc.v ⟨none, 0, 0⟩), (Slc.v ⟨none, 0, 0⟩), v2]⟩) w.drew) (
  needSome b1.p fun a3 =>
  0 <= (0 : Int) /\ (0 : Int) < (b1.l : Int) /\
  ∃ n4, w.drew.cell? a3 = some (.int .u8 n4) /\
  inR .i64 n4 /\
  needSome b1.p fun a5 =>
  0 <= (1 : Int) /\ (1 : Int) < (b1.l : Int) /\
  ∃ n6, w.drew.cell? (a5.add 1) = some (.int .u8 n6) /\
  inR .i64 n6 /\
  0 <= (8 : Int) /\
  inR .i64 (n6 * 256) /\
  0 <= n4 /\ 0 <= (n6 * 256) /\ inR .i64 n4 /\ inR .i64 (n6 * 256) /\
  BIf (decide ((2048 : Int) < (bitsI .or n4 (n6 * 256)))) (
  ∃ v7, World.cell? (w.drew.drew) ⟨bw, 0, none⟩ = some v7 /\
  K (.tuple ⟨[(Slc.v ⟨none, 0, 0⟩), (Slc.v ⟨none, 0, 0⟩), v7]⟩) (w.drew.drew)) (
  inR .i64 ((6 : Int) + (bitsI .or n4 (n6 * 256))) /\
  BIf (decide ((b1.l : Int) < ((6 : Int) + (bitsI .or n4 (n6 * 256))))) (
  ∃ v8, World.cell? (w.drew.drew) ⟨ct, 0, none⟩ = some v8 /\
  K (.tuple ⟨[(Slc.v ⟨none, 0, 0⟩), (Slc.v ⟨none, 0, 0⟩), v8]⟩) (w.drew.drew)) (
  needSome b1.p fun a9 =>
  0 <= (2 : Int) /\ (2 : Int) < (b1.l : Int) /\
  ∃ n10, World.cell? (w.drew.drew) (a9.add 2) = some (.int .u8 n10) /\
  inR .u32 n10 /\
  needSome b1.p fun a11 =>
  0 <= (3 : Int) /\ (3 : Int) < (b1.l : Int) /\
  ∃ n12, World.cell? (w.drew.drew) (a11.add 3) = some (.int .u8 n12) /\
  inR .u32 n12 /\
  0 <= (8 : Int) /\
  0 <= n10 /\ 0 <= (IntKind.wrap .u32 (n12 * 256)) /\ inR .u32 n10 /\ inR .u32 (IntKind.wrap .u32 (n12 * 256)) /\
  needSome b1.p fun a13 =>
  0 <= (4 : Int) /\ (4 : Int) < (b1.l : Int) /\
  ∃ n14, World.cell? (w.drew.drew) (a13.add 4) = some (.int .u8 n14) /\
  inR .u32 n14 /\
  0 <= (16 : Int) /\
  0 <= (bitsI .or n10 (IntKind.wrap .u32 (n12 * 256))) /\ 0 <= (IntKind.wrap .u32 (n14 * 65536)) /\ inR .u32 (bitsI .or n10 (IntKind.wrap .u32 (n12 * 256))) /\ inR .u32 (IntKind.wrap .u32 (n14 * 65536)) /\
  needSome b1.p fun a15 =>
  0 <= (5 : Int) /\ (5 : Int) < (b1.l : Int) /\
  ∃ n16, World.cell? (w.drew.drew) (a15.add 5) = some (.int .u8 n16) /\
  inR .u32 n16 /\
  0 <= (24 : Int) /\
  0 <= (bitsI .or (bitsI .or n10 (IntKind.wrap .u32 (n12 * 256))) (IntKind.wrap .u32 (n14 * 65536))) /\ 0 <= (IntKind.wrap .u32 (n16 * 16777216)) /\ inR .u32 (bitsI .or (bitsI .or n10 (IntKind.wrap .u32 (n12 * 256))) (IntKind.wrap .u32 (n14 * 65536))) /\ inR .u32 (IntKind.wrap .u32 (n16 * 16777216)) /\
  inR .i64 ((6 : Int) + (bitsI .or n4 (n6 * 256))) /\
  0 <= (6 : Int) /\ (6 : Int) <= ((6 : Int) + (bitsI .or n4 (n6 * 256))) /\ ((6 : Int) + (bitsI .or n4 (n6 * 256))) <= (b1.c : Int) /\ (b1.c : Int) <= (b1.c : Int) /\
  0 <= (0 : Int) /\ (0 : Int) <= (2 : Int) /\ (2 : Int) <= (b1.c : Int) /\ (b1.c : Int) <= (b1.c : Int) /\
  aH (w.drew.drew) (.cells ⟨[(Slc.v (Slc.sub b1 1 0 2 b1.c)), (Slc.v (Slc.sub b1 1 6 (Int.toNat ((6 : Int) + (bitsI .or n4 (n6 * 256)))) b1.c))]⟩ 28) fun r19 w20 =>
  Calls Tryz.prog kI ⟨[(Slc.v (⟨(some ⟨r19, 0, none⟩), 2, 2⟩ : Slc))]⟩ w20 fun e21 w22 =>
  ∃ n23, e21 = .returned (.int .u32 n23) /\
  BIf (!decide (n23 = (bitsI .or (bitsI .or (bitsI .or n10 (IntKind.wrap .u32 (n12 * 256))) (IntKind.wrap .u32 (n14 * 65536))) (IntKind.wrap .u32 (n16 * 16777216))))) (
  ∃ v24, w22.drew.cell? ⟨jV, 0, none⟩ = some v24 /\
  K (.tuple ⟨[(Slc.v ⟨none, 0, 0⟩), (Slc.v ⟨none, 0, 0⟩), v24]⟩) w22.drew) (
  inR .i64 ((6 : Int) + (bitsI .or n4 (n6 * 256))) /\
  0 <= ((6 : Int) + (bitsI .or n4 (n6 * 256))) /\ ((6 : Int) + (bitsI .or n4 (n6 * 256))) <= (b1.l : Int) /\ (b1.l : Int) <= (b1.c : Int) /\ (b1.c : Int) <= (b1.c : Int) /\
  Calls Tryz.prog ar ⟨[(Slc.v (Slc.sub b1 1 6 (Int.toNat ((6 : Int) + (bitsI .or n4 (n6 * 256)))) b1.c))]⟩ w22.drew fun e26 w27 =>
  ∃ s28, e26 = .returned (Slc.v s28) /\
  Calls Tryz.prog ar ⟨[(Slc.v (Slc.sub b1 1 (Int.toNat ((6 : Int) + (bitsI .or n4 (n6 * 256)))) b1.l b1.c))]⟩ w27 fun e29 w30 =>
  ∃ s31, e29 = .returned (Slc.v s31) /\
  K (.tuple ⟨[(Slc.v s28), (Slc.v s31), .nilIface]⟩) w30))))
theorem yT (b1 : Slc) {w : World} {R : Ending -> World -> Prop} (h : xU b1 w fun v w' => R (.returned v) w') : Calls Tryz.prog mC ⟨[(Slc.v b1)]⟩ w R :=
  ab (ann := (.two .none (.two .none (.two .none (.two .none (.two (.reg [8, 14, 20]) .none)))))) ah mixed Tryz.func70 (Eq.mp (by kernel_rfl) h)
def ji (b1 : Slc) (w : World) (K : Value -> World -> Prop) : Prop :=
  0 <= (b1.l : Int) /\ 0 < (256 : Int) /\
  0 <= (b1.l : Int) /\ 0 < (256 : Int) /\ inR .i64 (b1.l : Int) /\
  aH w (.cells ⟨[(.int .u8 (IntKind.wrap .u8 ((b1.l : Int) % (256 : Int)))), (.int .u8 (IntKind.wrap .u8 ((b1.l : Int) / (256 : Int))))]⟩ 5) fun r2 w3 =>
  aH w3 (.cells ⟨[]⟩ 5) fun r4 w5 =>
  aK 1 5 [(.int .u8 (0 : Int))] w5 (⟨(some ⟨r4, 0, none⟩), 0, 0⟩ : Slc) (.slc (⟨(some ⟨r2, 0, none⟩), 2, 2⟩ : Slc)) fun s6 w7 =>
  aK 1 5 [(.int .u8 (0 : Int))] w7 s6 (.slc b1) fun s8 w9 =>
  Calls Tryz.prog fp ⟨[(Slc.v s8)]⟩ w9 fun e10 w11 =>
  ∃ n12, e10 = .returned (.int .u32 n12) /\
  0 <= (8 : Int) /\ 0 <= n12 /\
  0 <= (16 : Int) /\ 0 <= n12 /\
  0 <= (24 : Int) /\ 0 <= n12 /\
  aH w11 (.cells ⟨[(.int .u8 (IntKind.wrap .u8 n12)), (.int .u8 (IntKind.wrap .u8 (n12 / 256))), (.int .u8 (IntKind.wrap .u8 (n12 / 65536))), (.int .u8 (IntKind.wrap .u8 (n12 / 16777216)))]⟩ 5) fun r13 w14 =>
  aK 1 5 [(.int .u8 (0 : Int))] w14 (⟨(some ⟨r2, 0, none⟩), 2, 2⟩ : Slc) (.slc (⟨(some ⟨r13, 0, none⟩), 4, 4⟩ : Slc)) fun s15 w16 =>
  aK 1 5 [(.int .u8 (0 : Int))] w16 s15 (.slc b1) fun s17 w18 =>
  K (Slc.v s17) w18
theorem lU (b1 : Slc) {w : World} {R : Ending -> World -> Prop} (h : ji b1 w fun v w' => R (.returned v) w') : Calls Tryz.prog cN ⟨[(Slc.v b1)]⟩ w R :=
  ab (ann := .none) ah mixed Tryz.func96 (Eq.mp (by kernel_rfl) h)
def jB (b1 : Slc) (w : World) (K : Value -> World -> Prop) : Prop :=
  BIf (decide ((b1.l : Int) < (6 : Int))) (
  K (.tuple ⟨[(Slc.v ⟨none, 0, 0⟩), (Slc.v ⟨none, 0, 0⟩), (.int .i64 (2 : Int))]⟩) w) (
  needSome b1.p fun a2 =>
  0 <= (0 : Int) /\ (0 : Int) < (b1.l : Int) /\
  ∃ n3, w.drew.cell? a2 = some (.int .u8 n3) /\
  inR .i64 n3 /\
  needSome b1.p fun a4 =>
  0 <= (1 : Int) /\ (1 : Int) < (b1.l : Int) /\
  ∃ n5, w.drew.cell? (a4.add 1) = some (.int .u8 n5) /\
  inR .i64 n5 /\
  inR .i64 ((256 : Int) * n5) /\
  inR .i64 (n3 + ((256 : Int) * n5)) /\
  BIf (decide ((2048 : Int) < (n3 + ((256 : Int) * n5)))) (
  K (.tuple ⟨[(Slc.v ⟨none, 0, 0⟩), (Slc.v ⟨none, 0, 0⟩), (.int .i64 (3 : Int))]⟩) w.drew) (
  inR .i64 ((b1.l : Int) - (6 : Int)) /\
  BIf (decide (((b1.l : Int) - (6 : Int)) < (n3 + ((256 : Int) * n5)))) (
  K (.tuple ⟨[(Slc.v ⟨none, 0, 0⟩), (Slc.v ⟨none, 0, 0⟩), (.int .i64 (2 : Int))]⟩) w.drew) (
  inR .i64 ((6 : Int) + (n3 + ((256 : Int) * n5))) /\
  0 <= (6 : Int) /\ (6 : Int) <= ((6 : Int) + (n3 + ((256 : Int) * n5))) /\ ((6 : Int) + (n3 + ((256 : Int) * n5))) <= (b1.c : Int) /\ (b1.c : Int) <= (b1.c : Int) /\
  inR .i64 ((6 : Int) + (n3 + ((256 : Int) * n5))) /\
  0 <= (0 : Int) /\ (0 : Int) <= ((6 : Int) + (n3 + ((256 : Int) * n5))) /\ ((6 : Int) + (n3 + ((256 : Int) * n5))) <= (b1.c : Int) /\ (b1.c : Int) <= (b1.c : Int) /\
  ∃ t8 : List UInt8, ag (w.drew.drew) (Slc.sub b1 1 0 (Int.toNat ((6 : Int) + (n3 + ((256 : Int) * n5)))) b1.c) t8 /\
  Calls Tryz.prog cN ⟨[(Slc.v (Slc.sub b1 1 6 (Int.toNat ((6 : Int) + (n3 + ((256 : Int) * n5)))) b1.c))]⟩ (w.drew.drew) fun e9 w10 =>
  ∃ s11, e9 = .returned (Slc.v s11) /\
  (∃ t12 : List UInt8, ag w10 (Slc.sub b1 1 0 (Int.toNat ((6 : Int) + (n3 + ((256 : Int) * n5)))) b1.c) t12 /\
  (fG t12) = (fG t8)) /\
  ∃ t13 : List UInt8, ag w10 s11 t13 /\
  BIf (!decide (t13 = t8)) (
  K (.tuple ⟨[(Slc.v ⟨none, 0, 0⟩), (Slc.v ⟨none, 0, 0⟩), (.int .i64 (5 : Int))]⟩) w10) (
  inR .i64 ((6 : Int) + (n3 + ((256 : Int) * n5))) /\
  0 <= (6 : Int) /\ (6 : Int) <= ((6 : Int) + (n3 + ((256 : Int) * n5))) /\ ((6 : Int) + (n3 + ((256 : Int) * n5))) <= (b1.c : Int) /\ (b1.c : Int) <= (b1.c : Int) /\
  inR .i64 ((6 : Int) + (n3 + ((256 : Int) * n5))) /\
  0 <= ((6 : Int) + (n3 + ((256 : Int) * n5))) /\ ((6 : Int) + (n3 + ((256 : Int) * n5))) <= (b1.l : Int) /\ (b1.l : Int) <= (b1.c : Int) /\ (b1.c : Int) <= (b1.c : Int) /\
  (
  aH w10.drew (.cells ⟨[]⟩ 5) fun r16 w17 =>
  (
  aK 1 5 [(.int .u8 (0 : Int))] w17 (⟨(some ⟨r16, 0, none⟩), 0, 0⟩ : Slc) (.slc (Slc.sub b1 1 6 (Int.toNat ((6 : Int) + (n3 + ((256 : Int) * n5)))) b1.c)) fun s18 w19 =>
  aH w19 (.cells ⟨[]⟩ 5) fun r20 w21 =>
  aK 1 5 [(.int .u8 (0 : Int))] w21 (⟨(some ⟨r20, 0, none⟩), 0, 0⟩ : Slc) (.slc (Slc.sub b1 1 (Int.toNat ((6 : Int) + (n3 + ((256 : Int) * n5)))) b1.l b1.c)) fun s22 w23 =>
  K (.tuple ⟨[(Slc.v s18), (Slc.v s22), (.int .i64 (0 : Int))]⟩) w23) /\
  (
  aH w17 (.cells ⟨[]⟩ 5) fun r24 w25 =>
  aK 1 5 [(.int .u8 (0 : Int))] w25 (⟨(some ⟨r16, 0, none⟩), 0, 0⟩ : Slc) (.slc (Slc.sub b1 1 6 (Int.toNat ((6 : Int) + (n3 + ((256 : Int) * n5)))) b1.c)) fun s26 w27 =>
  aK 1 5 [(.int .u8 (0 : Int))] w27 (⟨(some ⟨r24, 0, none⟩), 0, 0⟩ : Slc) (.slc (Slc.sub b1 1 (Int.toNat ((6 : Int) + (n3 + ((256 : Int) * n5)))) b1.l b1.c)) fun s28 w29 =>
  K (.tuple ⟨[(Slc.v s26), (Slc.v s28), (.int .i64 (0 : Int))]⟩) w29)) /\
  (
  aH w10.drew (.cells ⟨[]⟩ 5) fun r30 w31 =>
  aH w31 (.cells ⟨[]⟩ 5) fun r32 w33 =>
  aK 1 5 [(.int .u8 (0 : Int))] w33 (⟨(some ⟨r32, 0, none⟩), 0, 0⟩ : Slc) (.slc (Slc.sub b1 1 6 (Int.toNat ((6 : Int) + (n3 + ((256 : Int) * n5)))) b1.c)) fun s34 w35 =>
  aK 1 5 [(.int .u8 (0 : Int))] w35 (⟨(some ⟨r30, 0, none⟩), 0, 0⟩ : Slc) (.slc (Slc.sub b1 1 (Int.toNat ((6 : Int) + (n3 + ((256 : Int) * n5)))) b1.l b1.c)) fun s36 w37 =>
  K (.tuple ⟨[(Slc.v s34), (Slc.v s36), (.int .i64 (0 : Int))]⟩) w37)))))
theorem mF (b1 : Slc) {w : World} {R : Ending -> World -> Prop} (h : jB b1 w fun v w' => R (.returned v) w') : Calls Tryz.prog eR ⟨[(Slc.v b1)]⟩ w R :=
  ab (ann := .none) ah mixed Tryz.func53 (Eq.mp (by kernel_rfl) h)
end Go.D

