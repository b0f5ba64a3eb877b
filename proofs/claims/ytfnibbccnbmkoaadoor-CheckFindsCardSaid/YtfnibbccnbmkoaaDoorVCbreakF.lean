/-
  WHAT IS PROVED: verification conditions of functions of this program, each with its soundness. No further conditions.
-/
import Derived.Test.YtfnibbccnbmkoaaDoorBase
set_option linter.unusedSimpArgs false
set_option maxRecDepth 100000
set_option linter.unusedVariables false
namespace Go.D
open Go Go.Proofs
def dy (length1 : Int) (w : World) (K : Value -> World -> Prop) : Prop :=
  Calls Tryd.prog bG ⟨[(.int .u64 (IntKind.wrap .u64 length1))]⟩ w fun e2 w3 =>
  ∃ n4, e2 = .returned (.int .i64 n4) /\
  0 <= n4 /\
  K (.int .u64 (IntKind.wrap .u64 ((1 : Int) * ((2 ^ min (Int.toNat n4) 64 : Nat) : Int)))) w3
theorem fe (length1 : Int) {w : World} {R : Ending -> World -> Prop} (h : dy length1 w fun v w' => R (.returned v) w') : Calls Tryd.prog bX ⟨[(.int .i64 length1)]⟩ w R :=
  ae (ann := (.two .none (.two (.reg [3]) .none))) aj mixed Tryd.func47 (Eq.mp (by kernel_rfl) h)
def dV (r1 : Option Addr) (w : World) (K : Value -> World -> Prop) : Prop :=
  needSome r1 fun a2 =>
  ∃ n3, w.drew.cell? a2 = some (.int .u64 n3) /\
  needSome r1 fun a4 =>
  ∃ n5, w.drew.cell? a4 = some (.int .u64 n5) /\
  0 <= (13 : Int) /\
  0 <= n3 /\ 0 <= (IntKind.wrap .u64 (n5 * 8192)) /\ inR .u64 n3 /\ inR .u64 (IntKind.wrap .u64 (n5 * 8192)) /\
  needSome r1 fun a6 =>
  aw w.drew a6 1 /\ ∀ w7, w7 = w.drew.setCell a6 (.int .u64 (bitsI .xor n3 (IntKind.wrap .u64 (n5 * 8192)))) ->
  needSome r1 fun a8 =>
  ∃ n9, w7.drew.cell? a8 = some (.int .u64 n9) /\
  needSome r1 fun a10 =>
  ∃ n11, w7.drew.cell? a10 = some (.int .u64 n11) /\
  0 <= (7 : Int) /\ 0 <= n11 /\
  0 <= n9 /\ 0 <= (n11 / 128) /\ inR .u64 n9 /\ inR .u64 (n11 / 128) /\
  needSome r1 fun a12 =>
  aw w7.drew a12 1 /\ ∀ w13, w13 = w7.drew.setCell a12 (.int .u64 (bitsI .xor n9 (n11 / 128))) ->
  needSome r1 fun a14 =>
  ∃ n15, w13.drew.cell? a14 = some (.int .u64 n15) /\
  needSome r1 fun a16 =>
  ∃ n17, w13.drew.cell? a16 = some (.int .u64 n17) /\
  0 <= (17 : Int) /\
  0 <= n15 /\ 0 <= (IntKind.wrap .u64 (n17 * 131072)) /\ inR .u64 n15 /\ inR .u64 (IntKind.wrap .u64 (n17 * 131072)) /\
  needSome r1 fun a18 =>
  aw w13.drew a18 1 /\ ∀ w19, w19 = w13.drew.setCell a18 (.int .u64 (bitsI .xor n15 (IntKind.wrap .u64 (n17 * 131072)))) ->
  needSome r1 fun a20 =>
  ∃ n21, w19.cell? a20 = some (.int .u64 n21) /\
  K (.int .u64 n21) w19
theorem fq (r1 : Option Addr) {w : World} {R : Ending -> World -> Prop} (h : dV r1 w fun v w' => R (.returned v) w') : Calls Tryd.prog cn ⟨[(.pointer r1)]⟩ w R :=
  ae (ann := (.two .none (.two (.reg [6]) (.two .none (.two (.reg [6]) .none))))) aj mixed Tryd.func48 (Eq.mp (by kernel_rfl) h)
def aX (data1 : Slc) (a2 : Int) (b3 : Int) (w : World) (K : Value -> World -> Prop) : Prop :=
  inR .i64 (b3 - a2) /\
  BIf (decide ((8 : Int) <= (b3 - a2))) (
  aK w (.cells ⟨[(.int .u64 0)]⟩ 118) fun r4 w5 =>
  aw w5 ⟨r4, 0, none⟩ 1 /\ ∀ w6, w6 = w5.setCell ⟨r4, 0, none⟩ (.int .u64 (IntKind.wrap .u64 (b3 - a2))) ->
  Calls Tryd.prog bX ⟨[(.int .i64 (b3 - a2))]⟩ w6 fun e7 w8 =>
  ∃ n9, e7 = .returned (.int .u64 n9) /\
  0 <= (b3 - a2) /\ 0 < (4 : Int) /\ inR .i64 (b3 - a2) /\
  inR .i64 (((b3 - a2) / (4 : Int)) * (2 : Int)) /\
  inR .i64 (a2 + (((b3 - a2) / (4 : Int)) * (2 : Int))) /\
  inR .i64 ((a2 + (((b3 - a2) / (4 : Int)) * (2 : Int))) - (1 : Int)) /\
  ∃ (I10 : (Int) -> World -> Prop) (mu11 : (Int) -> World -> Nat), I10 (((a2 + (((b3 - a2) / (4 : Int)) * (2 : Int))) - (1 : Int))) w8 /\ (
  ∀ idx12 : Int, ∀ w13 : World, I10 idx12 w13 -> ∀ _ _ _ _ _ _ _ _ _ _ _ _ _ _ _ _ _ _ _ _ _ _ _ _ _ _ _ _ _ _ _ _ _ _ _ _ _ _ _ _ : Value,
  0 <= (b3 - a2) /\ 0 < (4 : Int) /\ inR .i64 (b3 - a2) /\
  inR .i64 (((b3 - a2) / (4 : Int)) * (2 : Int)) /\
  inR .i64 (a2 + (((b3 - a2) / (4 : Int)) * (2 : Int))) /\
  inR .i64 ((a2 + (((b3 - a2) / (4 : Int)) * (2 : Int))) + (1 : Int)) /\
  BIf (decide (idx12 <= ((a2 + (((b3 - a2) / (4 : Int)) * (2 : Int))) + (1 : Int)))) (
  Calls Tryd.prog cn ⟨[(.pointer (some ⟨r4, 0, none⟩))]⟩ w13 fun e54 w55 =>
  ∃ n56, e54 = .returned (.int .u64 n56) /\
  0 <= n56 /\ 0 <= (IntKind.wrap .u64 (n9 - 1)) /\ inR .u64 n56 /\ inR .u64 (IntKind.wrap .u64 (n9 - 1)) /\
  ∃ J57 : (Int) -> World -> Prop,
  (
  BIf (decide ((b3 - a2) <= (IntKind.wrap .i64 (bitsI .and n56 (IntKind.wrap .u64 (n9 - 1)))))) (
  inR .i64 ((IntKind.wrap .i64 (bitsI .and n56 (IntKind.wrap .u64 (n9 - 1)))) - (b3 - a2)) /\
  J57 (((IntKind.wrap .i64 (bitsI .and n56 (IntKind.wrap .u64 (n9 - 1)))) - (b3 - a2))) w55) (
  J57 ((IntKind.wrap .i64 (bitsI .and n56 (IntKind.wrap .u64 (n9 - 1))))) w55)) /\ (
  ∀ other58 : Int, ∀ w59 : World, J57 other58 w59 -> ∀ _ _ _ _ _ _ : Value,
  inR .i64 (a2 + other58) /\
  inR .i64 (a2 + other58) /\
  needSome data1.p fun a66 =>
  0 <= (a2 + other58) /\ (a2 + other58) < (data1.l : Int) /\
  ∃ n67 : Int, ∃ n68 : Int, ∃ n69 : Int, ∃ n70 : Int, ∃ s71 : Slc, rowAt w59.drew (Addr.add a66 ((Int.toNat (a2 + other58)) * 5)) 0 [(.int .i64 n67), (.int .i64 n68), (.int .i64 n69), (.int .i64 n70), s71.v] /\
  needSome data1.p fun a72 =>
  0 <= idx12 /\ idx12 < (data1.l : Int) /\
  ∃ n73 : Int, ∃ n74 : Int, ∃ n75 : Int, ∃ n76 : Int, ∃ s77 : Slc, rowAt w59.drew (Addr.add a72 ((Int.toNat idx12) * 5)) 0 [(.int .i64 n73), (.int .i64 n74), (.int .i64 n75), (.int .i64 n76), s77.v] /\
  needSome data1.p fun a78 =>
  0 <= idx12 /\ idx12 < (data1.l : Int) /\
  aw w59.drew (Addr.add a78 ((Int.toNat idx12) * 5)) 5 /\ ∀ w79, w79 = setCells w59.drew (Addr.add a78 ((Int.toNat idx12) * 5)) 0 [(.int .i64 n67), (.int .i64 n68), (.int .i64 n69), (.int .i64 n70), s71.v] ->
  needSome data1.p fun a80 =>
  0 <= (a2 + other58) /\ (a2 + other58) < (data1.l : Int) /\
  aw w79 (Addr.add a80 ((Int.toNat (a2 + other58)) * 5)) 5 /\ ∀ w81, w81 = setCells w79 (Addr.add a80 ((Int.toNat (a2 + other58)) * 5)) 0 [(.int .i64 n73), (.int .i64 n74), (.int .i64 n75), (.int .i64 n76), s77.v] ->
  inR .i64 (idx12 + 1) /\
  (I10 ((idx12 + 1)) w81 /\ mu11 ((idx12 + 1)) w81 < mu11 idx12 w13))) (
  K (.tuple #[]) w13))) (
  K (.tuple #[]) w)
theorem bL (data1 : Slc) (a2 : Int) (b3 : Int) {w : World} {R : Ending -> World -> Prop} (h : aX data1 a2 b3 w fun v w' => R (.returned v) w') : Calls Tryd.prog aT ⟨[data1.v, (.int .i64 a2), (.int .i64 b3), (.func (.func 16) ⟨[]⟩ ⟨[]⟩)]⟩ w R :=
  ae (ann := (.two .none (.two .none (.two (.two .none (.two .none (.two .none (.one (.loop [(11, (Sh.int .i64))] ([12] ++ List.range' 28 39) (.two .none (.two (.one (.two (.reg [2]) (.cut [(12, (Sh.int .i64))] [43, 44, 45, 46, 47, 48] .none .none))) .none))))))) .none)))) aj mixed Tryd.func34 (Eq.mp (by kernel_rfl) h)
end Go.D

