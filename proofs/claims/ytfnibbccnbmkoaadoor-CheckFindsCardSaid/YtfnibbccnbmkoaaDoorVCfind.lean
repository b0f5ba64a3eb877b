/-
  WHAT IS PROVED: verification conditions of functions of this program, each with its soundness. No further conditions.
-/
import Derived.Test.YtfnibbccnbmkoaaDoorBase
set_option linter.unusedSimpArgs false
set_option maxRecDepth 100000
set_option linter.unusedVariables false
namespace Go.D
open Go Go.Proofs
def iw (a1 : Int) (a2 : Int) (a3 : Int) (a4 : Int) (a5 : Slc) (b6 : Int) (b7 : Int) (b8 : Int) (b9 : Int) (b10 : Slc) (w : World) (K : Value -> World -> Prop) : Prop :=
  aK w (.cells ⟨[(.int .i64 a1), (.int .i64 a2), (.int .i64 a3), (.int .i64 a4), a5.v]⟩ 35) fun r11 w12 =>
  aK w12 (.cells ⟨[(.int .i64 b6), (.int .i64 b7), (.int .i64 b8), (.int .i64 b9), b10.v]⟩ 35) fun r13 w14 =>
  ∃ n15, w14.cell? ⟨r11, 0, none⟩ = some (.int .i64 n15) /\
  ∃ n16, w14.cell? ⟨r13, 0, none⟩ = some (.int .i64 n16) /\
  BIf (!decide (n15 = n16)) (
  ∃ n17, w14.cell? ⟨r11, 0, none⟩ = some (.int .i64 n17) /\
  ∃ n18, w14.cell? ⟨r13, 0, none⟩ = some (.int .i64 n18) /\
  inR .i64 (n17 - n18) /\
  K (.int .i64 (n17 - n18)) w14) (
  ∃ n19, w14.cell? ⟨r11, 1, none⟩ = some (.int .i64 n19) /\
  ∃ n20, w14.cell? ⟨r13, 1, none⟩ = some (.int .i64 n20) /\
  inR .i64 (n19 - n20) /\
  K (.int .i64 (n19 - n20)) w14)
theorem jj (a1 : Int) (a2 : Int) (a3 : Int) (a4 : Int) (a5 : Slc) (b6 : Int) (b7 : Int) (b8 : Int) (b9 : Int) (b10 : Slc) {w : World} {R : Ending -> World -> Prop} (h : iw a1 a2 a3 a4 a5 b6 b7 b8 b9 b10 w fun v w' => R (.returned v) w') : Calls Tryd.prog ak ⟨[(.agg ⟨[(.int .i64 a1), (.int .i64 a2), (.int .i64 a3), (.int .i64 a4), a5.v]⟩), (.agg ⟨[(.int .i64 b6), (.int .i64 b7), (.int .i64 b8), (.int .i64 b9), b10.v]⟩)]⟩ w R :=
  ae (ann := .none) aj mixed Tryd.func16 (Eq.mp (by kernel_rfl) h)
def fb (x1 : Int) (w : World) (K : Value -> World -> Prop) : Prop :=
  Calls Tryd.prog cw ⟨[(.int .u64 x1)]⟩ w fun e2 w3 =>
  ∃ n4, e2 = .returned (.int .i64 n4) /\
  K (.int .i64 n4) w3
theorem fp (x1 : Int) {w : World} {R : Ending -> World -> Prop} (h : fb x1 w fun v w' => R (.returned v) w') : Calls Tryd.prog bG ⟨[(.int .u64 x1)]⟩ w R :=
  ae (ann := .none) aj mixed Tryd.func25 (Eq.mp (by kernel_rfl) h)
def ed (x1 : Int) (w : World) (K : Value -> World -> Prop) : Prop :=
  ∃ J2 : (Int) -> (Int) -> World -> Prop,
  (
  BIf (decide (4294967296 <= x1)) (
  0 <= (32 : Int) /\ 0 <= x1 /\
  J2 ((x1 / 4294967296)) ((32 : Int)) w) (
  J2 (x1) ((0 : Int)) w)) /\ (
  ∀ x3 : Int, ∀ n4 : Int, ∀ w5 : World, J2 x3 n4 w5 -> ∀ _ _ _ _ : Value,
  ∃ J10 : (Int) -> (Int) -> World -> Prop,
  (
  BIf (decide (65536 <= x3)) (
  0 <= (16 : Int) /\ 0 <= x3 /\
  inR .i64 (n4 + 16) /\
  J10 ((x3 / 65536)) ((n4 + 16)) w5) (
  J10 (x3) (n4) w5)) /\ (
  ∀ x11 : Int, ∀ n12 : Int, ∀ w13 : World, J10 x11 n12 w13 -> ∀ _ _ _ _ _ _ : Value,
  BIf (decide (256 <= x11)) (
  0 <= (8 : Int) /\ 0 <= x11 /\
  inR .i64 (n12 + 8) /\
  0 <= (IntKind.wrap .u8 (x11 / 256)) /\ (IntKind.wrap .u8 (x11 / 256)) < ((List.length ([0, 1, 2, 2, 3, 3, 3, 3, 4, 4, 4, 4, 4, 4, 4, 4, 5, 5, 5, 5, 5, 5, 5, 5, 5, 5, 5, 5, 5, 5, 5, 5, 6, 6, 6, 6, 6, 6, 6, 6, 6, 6, 6, 6, 6, 6, 6, 6, 6, 6, 6, 6, 6, 6, 6, 6, 6, 6, 6, 6, 6, 6, 6, 6, 7, 7, 7, 7, 7, 7, 7, 7, 7, 7, 7, 7, 7, 7, 7, 7, 7, 7, 7, 7, 7, 7, 7, 7, 7, 7, 7, 7, 7, 7, 7, 7, 7, 7, 7, 7, 7, 7, 7, 7, 7, 7, 7, 7, 7, 7, 7, 7, 7, 7, 7, 7, 7, 7, 7, 7, 7, 7, 7, 7, 7, 7, 7, 7, 8, 8, 8, 8, 8, 8, 8, 8, 8, 8, 8, 8, 8, 8, 8, 8, 8, 8, 8, 8, 8, 8, 8, 8, 8, 8, 8, 8, 8, 8, 8, 8, 8, 8, 8, 8, 8, 8, 8, 8, 8, 8, 8, 8, 8, 8, 8, 8, 8, 8, 8, 8, 8, 8, 8, 8, 8, 8, 8, 8, 8, 8, 8, 8, 8, 8, 8, 8, 8, 8, 8, 8, 8, 8, 8, 8, 8, 8, 8, 8, 8, 8, 8, 8, 8, 8, 8, 8, 8, 8, 8, 8, 8, 8, 8, 8, 8, 8, 8, 8, 8, 8, 8, 8, 8, 8, 8, 8, 8, 8, 8, 8, 8, 8, 8, 8, 8, 8, 8, 8, 8, 8, 8, 8, 8, 8, 8, 8] : List UInt8) : Nat) : Int) /\
  inR .i64 ((UInt8.toNat (List.getD ([0, 1, 2, 2, 3, 3, 3, 3, 4, 4, 4, 4, 4, 4, 4, 4, 5, 5, 5, 5, 5, 5, 5, 5, 5, 5, 5, 5, 5, 5, 5, 5, 6, 6, 6, 6, 6, 6, 6, 6, 6, 6, 6, 6, 6, 6, 6, 6, 6, 6, 6, 6, 6, 6, 6, 6, 6, 6, 6, 6, 6, 6, 6, 6, 7, 7, 7, 7, 7, 7, 7, 7, 7, 7, 7, 7, 7, 7, 7, 7, 7, 7, 7, 7, 7, 7, 7, 7, 7, 7, 7, 7, 7, 7, 7, 7, 7, 7, 7, 7, 7, 7, 7, 7, 7, 7, 7, 7, 7, 7, 7, 7, 7, 7, 7, 7, 7, 7, 7, 7, 7, 7, 7, 7, 7, 7, 7, 7, 8, 8, 8, 8, 8, 8, 8, 8, 8, 8, 8, 8, 8, 8, 8, 8, 8, 8, 8, 8, 8, 8, 8, 8, 8, 8, 8, 8, 8, 8, 8, 8, 8, 8, 8, 8, 8, 8, 8, 8, 8, 8, 8, 8, 8, 8, 8, 8, 8, 8, 8, 8, 8, 8, 8, 8, 8, 8, 8, 8, 8, 8, 8, 8, 8, 8, 8, 8, 8, 8, 8, 8, 8, 8, 8, 8, 8, 8, 8, 8, 8, 8, 8, 8, 8, 8, 8, 8, 8, 8, 8, 8, 8, 8, 8, 8, 8, 8, 8, 8, 8, 8, 8, 8, 8, 8, 8, 8, 8, 8, 8, 8, 8, 8, 8, 8, 8, 8, 8, 8, 8, 8, 8, 8, 8, 8, 8, 8] : List UInt8) (Int.toNat (IntKind.wrap .u8 (x11 / 256))) 0) : Nat) : Int) /\
  inR .i64 ((n12 + 8) + ((UInt8.toNat (List.getD ([0, 1, 2, 2, 3, 3, 3, 3, 4, 4, 4, 4, 4, 4, 4, 4, 5, 5, 5, 5, 5, 5, 5, 5, 5, 5, 5, 5, 5, 5, 5, 5, 6, 6, 6, 6, 6, 6, 6, 6, 6, 6, 6, 6, 6, 6, 6, 6, 6, 6, 6, 6, 6, 6, 6, 6, 6, 6, 6, 6, 6, 6, 6, 6, 7, 7, 7, 7, 7, 7, 7, 7, 7, 7, 7, 7, 7, 7, 7, 7, 7, 7, 7, 7, 7, 7, 7, 7, 7, 7, 7, 7, 7, 7, 7, 7, 7, 7, 7, 7, 7, 7, 7, 7, 7, 7, 7, 7, 7, 7, 7, 7, 7, 7, 7, 7, 7, 7, 7, 7, 7, 7, 7, 7, 7, 7, 7, 7, 8, 8, 8, 8, 8, 8, 8, 8, 8, 8, 8, 8, 8, 8, 8, 8, 8, 8, 8, 8, 8, 8, 8, 8, 8, 8, 8, 8, 8, 8, 8, 8, 8, 8, 8, 8, 8, 8, 8, 8, 8, 8, 8, 8, 8, 8, 8, 8, 8, 8, 8, 8, 8, 8, 8, 8, 8, 8, 8, 8, 8, 8, 8, 8, 8, 8, 8, 8, 8, 8, 8, 8, 8, 8, 8, 8, 8, 8, 8, 8, 8, 8, 8, 8, 8, 8, 8, 8, 8, 8, 8, 8, 8, 8, 8, 8, 8, 8, 8, 8, 8, 8, 8, 8, 8, 8, 8, 8, 8, 8, 8, 8, 8, 8, 8, 8, 8, 8, 8, 8, 8, 8, 8, 8, 8, 8, 8, 8] : List UInt8) (Int.toNat (IntKind.wrap .u8 (x11 / 256))) 0) : Nat) : Int)) /\
  K (.int .i64 ((n12 + 8) + ((UInt8.toNat (List.getD ([0, 1, 2, 2, 3, 3, 3, 3, 4, 4, 4, 4, 4, 4, 4, 4, 5, 5, 5, 5, 5, 5, 5, 5, 5, 5, 5, 5, 5, 5, 5, 5, 6, 6, 6, 6, 6, 6, 6, 6, 6, 6, 6, 6, 6, 6, 6, 6, 6, 6, 6, 6, 6, 6, 6, 6, 6, 6, 6, 6, 6, 6, 6, 6, 7, 7, 7, 7, 7, 7, 7, 7, 7, 7, 7, 7, 7, 7, 7, 7, 7, 7, 7, 7, 7, 7, 7, 7, 7, 7, 7, 7, 7, 7, 7, 7, 7, 7, 7, 7, 7, 7, 7, 7, 7, 7, 7, 7, 7, 7, 7, 7, 7, 7, 7, 7, 7, 7, 7, 7, 7, 7, 7, 7, 7, 7, 7, 7, 8, 8, 8, 8, 8, 8, 8, 8, 8, 8, 8, 8, 8, 8, 8, 8, 8, 8, 8, 8, 8, 8, 8, 8, 8, 8, 8, 8, 8, 8, 8, 8, 8, 8, 8, 8, 8, 8, 8, 8, 8, 8, 8, 8, 8, 8, 8, 8, 8, 8, 8, 8, 8, 8, 8, 8, 8, 8, 8, 8, 8, 8, 8, 8, 8, 8, 8, 8, 8, 8, 8, 8, 8, 8, 8, 8, 8, 8, 8, 8, 8, 8, 8, 8, 8, 8, 8, 8, 8, 8, 8, 8, 8, 8, 8, 8, 8, 8, 8, 8, 8, 8, 8, 8, 8, 8, 8, 8, 8, 8, 8, 8, 8, 8, 8, 8, 8, 8, 8, 8, 8, 8, 8, 8, 8, 8, 8, 8] : List UInt8) (Int.toNat (IntKind.wrap .u8 (x11 / 256))) 0) : Nat) : Int))) w13) (
  0 <= (IntKind.wrap .u8 x11) /\ (IntKind.wrap .u8 x11) < ((List.length ([0, 1, 2, 2, 3, 3, 3, 3, 4, 4, 4, 4, 4, 4, 4, 4, 5, 5, 5, 5, 5, 5, 5, 5, 5, 5, 5, 5, 5, 5, 5, 5, 6, 6, 6, 6, 6, 6, 6, 6, 6, 6, 6, 6, 6, 6, 6, 6, 6, 6, 6, 6, 6, 6, 6, 6, 6, 6, 6, 6, 6, 6, 6, 6, 7, 7, 7, 7, 7, 7, 7, 7, 7, 7, 7, 7, 7, 7, 7, 7, 7, 7, 7, 7, 7, 7, 7, 7, 7, 7, 7, 7, 7, 7, 7, 7, 7, 7, 7, 7, 7, 7, 7, 7, 7, 7, 7, 7, 7, 7, 7, 7, 7, 7, 7, 7, 7, 7, 7, 7, 7, 7, 7, 7, 7, 7, 7, 7, 8, 8, 8, 8, 8, 8, 8, 8, 8, 8, 8, 8, 8, 8, 8, 8, 8, 8, 8, 8, 8, 8, 8, 8, 8, 8, 8, 8, 8, 8, 8, 8, 8, 8, 8, 8, 8, 8, 8, 8, 8, 8, 8, 8, 8, 8, 8, 8, 8, 8, 8, 8, 8, 8, 8, 8, 8, 8, 8, 8, 8, 8, 8, 8, 8, 8, 8, 8, 8, 8, 8, 8, 8, 8, 8, 8, 8, 8, 8, 8, 8, 8, 8, 8, 8, 8, 8, 8, 8, 8, 8, 8, 8, 8, 8, 8, 8, 8, 8, 8, 8, 8, 8, 8, 8, 8, 8, 8, 8, 8, 8, 8, 8, 8, 8, 8, 8, 8, 8, 8, 8, 8, 8, 8, 8, 8, 8, 8] : List UInt8) : Nat) : Int) /\
  inR .i64 ((UInt8.toNat (List.getD ([0, 1, 2, 2, 3, 3, 3, 3, 4, 4, 4, 4, 4, 4, 4, 4, 5, 5, 5, 5, 5, 5, 5, 5, 5, 5, 5, 5, 5, 5, 5, 5, 6, 6, 6, 6, 6, 6, 6, 6, 6, 6, 6, 6, 6, 6, 6, 6, 6, 6, 6, 6, 6, 6, 6, 6, 6, 6, 6, 6, 6, 6, 6, 6, 7, 7, 7, 7, 7, 7, 7, 7, 7, 7, 7, 7, 7, 7, 7, 7, 7, 7, 7, 7, 7, 7, 7, 7, 7, 7, 7, 7, 7, 7, 7, 7, 7, 7, 7, 7, 7, 7, 7, 7, 7, 7, 7, 7, 7, 7, 7, 7, 7, 7, 7, 7, 7, 7, 7, 7, 7, 7, 7, 7, 7, 7, 7, 7, 8, 8, 8, 8, 8, 8, 8, 8, 8, 8, 8, 8, 8, 8, 8, 8, 8, 8, 8, 8, 8, 8, 8, 8, 8, 8, 8, 8, 8, 8, 8, 8, 8, 8, 8, 8, 8, 8, 8, 8, 8, 8, 8, 8, 8, 8, 8, 8, 8, 8, 8, 8, 8, 8, 8, 8, 8, 8, 8, 8, 8, 8, 8, 8, 8, 8, 8, 8, 8, 8, 8, 8, 8, 8, 8, 8, 8, 8, 8, 8, 8, 8, 8, 8, 8, 8, 8, 8, 8, 8, 8, 8, 8, 8, 8, 8, 8, 8, 8, 8, 8, 8, 8, 8, 8, 8, 8, 8, 8, 8, 8, 8, 8, 8, 8, 8, 8, 8, 8, 8, 8, 8, 8, 8, 8, 8, 8, 8] : List UInt8) (Int.toNat (IntKind.wrap .u8 x11)) 0) : Nat) : Int) /\
  inR .i64 (n12 + ((UInt8.toNat (List.getD ([0, 1, 2, 2, 3, 3, 3, 3, 4, 4, 4, 4, 4, 4, 4, 4, 5, 5, 5, 5, 5, 5, 5, 5, 5, 5, 5, 5, 5, 5, 5, 5, 6, 6, 6, 6, 6, 6, 6, 6, 6, 6, 6, 6, 6, 6, 6, 6, 6, 6, 6, 6, 6, 6, 6, 6, 6, 6, 6, 6, 6, 6, 6, 6, 7, 7, 7, 7, 7, 7, 7, 7, 7, 7, 7, 7, 7, 7, 7, 7, 7, 7, 7, 7, 7, 7, 7, 7, 7, 7, 7, 7, 7, 7, 7, 7, 7, 7, 7, 7, 7, 7, 7, 7, 7, 7, 7, 7, 7, 7, 7, 7, 7, 7, 7, 7, 7, 7, 7, 7, 7, 7, 7, 7, 7, 7, 7, 7, 8, 8, 8, 8, 8, 8, 8, 8, 8, 8, 8, 8, 8, 8, 8, 8, 8, 8, 8, 8, 8, 8, 8, 8, 8, 8, 8, 8, 8, 8, 8, 8, 8, 8, 8, 8, 8, 8, 8, 8, 8, 8, 8, 8, 8, 8, 8, 8, 8, 8, 8, 8, 8, 8, 8, 8, 8, 8, 8, 8, 8, 8, 8, 8, 8, 8, 8, 8, 8, 8, 8, 8, 8, 8, 8, 8, 8, 8, 8, 8, 8, 8, 8, 8, 8, 8, 8, 8, 8, 8, 8, 8, 8, 8, 8, 8, 8, 8, 8, 8, 8, 8, 8, 8, 8, 8, 8, 8, 8, 8, 8, 8, 8, 8, 8, 8, 8, 8, 8, 8, 8, 8, 8, 8, 8, 8, 8, 8] : List UInt8) (Int.toNat (IntKind.wrap .u8 x11)) 0) : Nat) : Int)) /\
  K (.int .i64 (n12 + ((UInt8.toNat (List.getD ([0, 1, 2, 2, 3, 3, 3, 3, 4, 4, 4, 4, 4, 4, 4, 4, 5, 5, 5, 5, 5, 5, 5, 5, 5, 5, 5, 5, 5, 5, 5, 5, 6, 6, 6, 6, 6, 6, 6, 6, 6, 6, 6, 6, 6, 6, 6, 6, 6, 6, 6, 6, 6, 6, 6, 6, 6, 6, 6, 6, 6, 6, 6, 6, 7, 7, 7, 7, 7, 7, 7, 7, 7, 7, 7, 7, 7, 7, 7, 7, 7, 7, 7, 7, 7, 7, 7, 7, 7, 7, 7, 7, 7, 7, 7, 7, 7, 7, 7, 7, 7, 7, 7, 7, 7, 7, 7, 7, 7, 7, 7, 7, 7, 7, 7, 7, 7, 7, 7, 7, 7, 7, 7, 7, 7, 7, 7, 7, 8, 8, 8, 8, 8, 8, 8, 8, 8, 8, 8, 8, 8, 8, 8, 8, 8, 8, 8, 8, 8, 8, 8, 8, 8, 8, 8, 8, 8, 8, 8, 8, 8, 8, 8, 8, 8, 8, 8, 8, 8, 8, 8, 8, 8, 8, 8, 8, 8, 8, 8, 8, 8, 8, 8, 8, 8, 8, 8, 8, 8, 8, 8, 8, 8, 8, 8, 8, 8, 8, 8, 8, 8, 8, 8, 8, 8, 8, 8, 8, 8, 8, 8, 8, 8, 8, 8, 8, 8, 8, 8, 8, 8, 8, 8, 8, 8, 8, 8, 8, 8, 8, 8, 8, 8, 8, 8, 8, 8, 8, 8, 8, 8, 8, 8, 8, 8, 8, 8, 8, 8, 8, 8, 8, 8, 8, 8, 8] : List UInt8) (Int.toNat (IntKind.wrap .u8 x11)) 0) : Nat) : Int))) w13)))
theorem eD (x1 : Int) {w : World} {R : Ending -> World -> Prop} (h : ed x1 w fun v w' => R (.returned v) w') : Calls Tryd.prog cw ⟨[(.int .u64 x1)]⟩ w R :=
  ae (ann := (.two .none (.cut [(0, (Sh.int .u64)), (2, (Sh.int .i64))] [3, 4, 5, 6] .none (.cut [(0, (Sh.int .u64)), (2, (Sh.int .i64))] [7, 8, 9, 10, 11, 12] .none .none)))) aj mixed Tryd.func41 (Eq.mp (by kernel_rfl) h)
def aW (data1 : Slc) (a2 : Int) (b3 : Int) (w : World) (K : Value -> World -> Prop) : Prop :=
  inR .i64 (a2 + 1) /\
  ∃ (I4 : (Int) -> World -> Prop) (mu5 : (Int) -> World -> Nat), I4 ((a2 + 1)) w /\ (
  ∀ i6 : Int, ∀ w7 : World, I4 i6 w7 -> ∀ _ _ _ _ _ _ _ _ _ _ _ _ _ _ _ _ _ _ _ _ _ _ _ _ _ _ _ _ _ _ _ _ _ _ _ _ _ _ _ _ _ _ : Value,
  BIf (decide (i6 < b3)) (
  ∃ (I50 : (Int) -> World -> Prop) (mu51 : (Int) -> World -> Nat), I50 (i6) w7 /\ (
  ∀ j52 : Int, ∀ w53 : World, I50 j52 w53 -> ∀ _ _ _ _ _ _ _ _ _ _ _ _ _ _ _ _ _ _ _ _ _ _ _ _ _ _ _ _ _ _ _ _ _ _ _ : Value,
  ∃ J89 : World -> Prop,
  (
  BIf (decide (a2 < j52)) (
  needSome data1.p fun a90 =>
  0 <= j52 /\ j52 < (data1.l : Int) /\
  ∃ n91 : Int, ∃ n92 : Int, ∃ n93 : Int, ∃ n94 : Int, ∃ s95 : Slc, rowAt w53.drew (Addr.add a90 ((Int.toNat j52) * 5)) 0 [(.int .i64 n91), (.int .i64 n92), (.int .i64 n93), (.int .i64 n94), s95.v] /\
  inR .i64 (j52 - 1) /\
  needSome data1.p fun a96 =>
  0 <= (j52 - 1) /\ (j52 - 1) < (data1.l : Int) /\
  ∃ n97 : Int, ∃ n98 : Int, ∃ n99 : Int, ∃ n100 : Int, ∃ s101 : Slc, rowAt w53.drew (Addr.add a96 ((Int.toNat (j52 - 1)) * 5)) 0 [(.int .i64 n97), (.int .i64 n98), (.int .i64 n99), (.int .i64 n100), s101.v] /\
  Calls Tryd.prog ak ⟨[(.agg ⟨[(.int .i64 n91), (.int .i64 n92), (.int .i64 n93), (.int .i64 n94), s95.v]⟩), (.agg ⟨[(.int .i64 n97), (.int .i64 n98), (.int .i64 n99), (.int .i64 n100), s101.v]⟩)]⟩ w53.drew fun e102 w103 =>
  ∃ n104, e102 = .returned (.int .i64 n104) /\
  BIf (decide (n104 < 0)) (
  J89 w103) (
  inR .i64 (i6 + 1) /\
  (I4 ((i6 + 1)) w103 /\ mu5 ((i6 + 1)) w103 < mu5 i6 w7))) (
  inR .i64 (i6 + 1) /\
  (I4 ((i6 + 1)) w53.drew /\ mu5 ((i6 + 1)) w53.drew < mu5 i6 w7))) /\ (
  ∀ w105 : World, J89 w105 -> ∀ _ _ _ _ _ _ _ _ _ _ _ _ _ _ _ _ _ : Value,
  inR .i64 (j52 - 1) /\
  inR .i64 (j52 - 1) /\
  needSome data1.p fun a123 =>
  0 <= (j52 - 1) /\ (j52 - 1) < (data1.l : Int) /\
  ∃ n124 : Int, ∃ n125 : Int, ∃ n126 : Int, ∃ n127 : Int, ∃ s128 : Slc, rowAt w105.drew (Addr.add a123 ((Int.toNat (j52 - 1)) * 5)) 0 [(.int .i64 n124), (.int .i64 n125), (.int .i64 n126), (.int .i64 n127), s128.v] /\
  needSome data1.p fun a129 =>
  0 <= j52 /\ j52 < (data1.l : Int) /\
  ∃ n130 : Int, ∃ n131 : Int, ∃ n132 : Int, ∃ n133 : Int, ∃ s134 : Slc, rowAt w105.drew (Addr.add a129 ((Int.toNat j52) * 5)) 0 [(.int .i64 n130), (.int .i64 n131), (.int .i64 n132), (.int .i64 n133), s134.v] /\
  needSome data1.p fun a135 =>
  0 <= j52 /\ j52 < (data1.l : Int) /\
  aw w105.drew (Addr.add a135 ((Int.toNat j52) * 5)) 5 /\ ∀ w136, w136 = setCells w105.drew (Addr.add a135 ((Int.toNat j52) * 5)) 0 [(.int .i64 n124), (.int .i64 n125), (.int .i64 n126), (.int .i64 n127), s128.v] ->
  needSome data1.p fun a137 =>
  0 <= (j52 - 1) /\ (j52 - 1) < (data1.l : Int) /\
  aw w136 (Addr.add a137 ((Int.toNat (j52 - 1)) * 5)) 5 /\ ∀ w138, w138 = setCells w136 (Addr.add a137 ((Int.toNat (j52 - 1)) * 5)) 0 [(.int .i64 n130), (.int .i64 n131), (.int .i64 n132), (.int .i64 n133), s134.v] ->
  inR .i64 (j52 - 1) /\
  (I50 ((j52 - 1)) w138 /\ mu51 ((j52 - 1)) w138 < mu51 j52 w53)))) (
  K (.tuple #[]) w7))
theorem bK (data1 : Slc) (a2 : Int) (b3 : Int) {w : World} {R : Ending -> World -> Prop} (h : aW data1 a2 b3 w fun v w' => R (.returned v) w') : Calls Tryd.prog aS ⟨[data1.v, (.int .i64 a2), (.int .i64 b3), (.func (.func 16) ⟨[]⟩ ⟨[]⟩)]⟩ w R :=
  ae (ann := (.two .none (.one (.loop [(8, (Sh.int .i64))] ([9] ++ List.range' 12 41) (.two .none (.two (.one (.two .none (.one (.loop [(9, (Sh.int .i64))] (List.range' 18 35) (.cut [] (List.range' 18 17) .none .none))))) .none)))))) aj mixed Tryd.func32 (Eq.mp (by kernel_rfl) h)
def bp (data1 : Slc) (a2 : Int) (b3 : Int) (limit4 : Int) (w : World) (K : Value -> World -> Prop) : Prop :=
  ∃ (I5 : (Int) -> (Int) -> (Int) -> (Bool) -> (Bool) -> World -> Prop) (mu6 : (Int) -> (Int) -> (Int) -> (Bool) -> (Bool) -> World -> Nat), I5 (a2) (b3) (limit4) (true) (true) w /\ (
  ∀ a7 : Int, ∀ b8 : Int, ∀ limit9 : Int, ∀ wasBalanced10 : Bool, ∀ wasPartitioned11 : Bool, ∀ w12 : World, I5 a7 b8 limit9 wasBalanced10 wasPartitioned11 w12 -> ∀ _ _ _ _ _ _ _ _ _ _ _ _ _ _ _ _ _ _ _ _ _ _ _ _ _ _ _ _ _ _ _ _ _ _ _ _ _ _ _ _ _ _ _ _ _ _ _ _ _ _ _ _ _ _ _ _ _ _ _ _ _ _ _ _ _ _ _ _ _ _ _ _ _ _ _ _ _ _ _ _ _ _ _ _ _ _ _ _ _ _ _ _ _ _ _ _ _ _ _ _ _ _ _ _ _ _ _ _ _ _ _ _ _ _ _ _ _ _ _ _ _ _ _ _ _ _ _ _ _ _ _ _ _ _ _ _ : Value,
  inR .i64 (b8 - a7) /\
  BIf (decide ((b8 - a7) <= (12 : Int))) (
  Calls Tryd.prog aS ⟨[data1.v, (.int .i64 a7), (.int .i64 b8), (.func (.func 16) ⟨[]⟩ ⟨[]⟩)]⟩ w12 fun e149 w150 =>
  e149 = .returned (.tuple #[]) /\
  K (.tuple #[]) w150) (
  BIf (decide (limit9 = 0)) (
  Calls Tryd.prog bo ⟨[data1.v, (.int .i64 a7), (.int .i64 b8), (.func (.func 16) ⟨[]⟩ ⟨[]⟩)]⟩ w12 fun e151 w152 =>
  e151 = .returned (.tuple #[]) /\
  K (.tuple #[]) w152) (
  ∃ J153 : (Int) -> World -> Prop,
  (
  BIf (!wasBalanced10) (
  Calls Tryd.prog aT ⟨[data1.v, (.int .i64 a7), (.int .i64 b8), (.func (.func 16) ⟨[]⟩ ⟨[]⟩)]⟩ w12 fun e154 w155 =>
  e154 = .returned (.tuple #[]) /\
  inR .i64 (limit9 - 1) /\
  J153 ((limit9 - 1)) w155) (
  J153 (limit9) w12)) /\ (
  ∀ limit156 : Int, ∀ w157 : World, J153 limit156 w157 -> ∀ _ _ _ _ _ _ _ _ _ : Value,
  Calls Tryd.prog aZ ⟨[data1.v, (.int .i64 a7), (.int .i64 b8), (.func (.func 16) ⟨[]⟩ ⟨[]⟩)]⟩ w157 fun e167 w168 =>
  ∃ n169 : Int, ∃ n170, e167 = .returned (.tuple ⟨[(.int .i64 n169), (.int .i64 n170)]⟩) /\
  ∃ J171 : (Int) -> (Int) -> World -> Prop,
  (
  BIf (decide (n170 = 2)) (
  Calls Tryd.prog aV ⟨[data1.v, (.int .i64 a7), (.int .i64 b8), (.func (.func 16) ⟨[]⟩ ⟨[]⟩)]⟩ w168 fun e172 w173 =>
  e172 = .returned (.tuple #[]) /\
  inR .i64 (b8 - 1) /\
  inR .i64 (n169 - a7) /\
  inR .i64 ((b8 - 1) - (n169 - a7)) /\
  J171 (((b8 - 1) - (n169 - a7))) ((1 : Int)) w173) (
  J171 (n169) (n170) w168)) /\ (
  ∀ pivot174 : Int, ∀ hint175 : Int, ∀ w176 : World, J171 pivot174 hint175 w176 -> ∀ _ _ _ _ _ _ _ _ _ _ _ _ _ : Value,
  ∃ J190 : World -> Prop,
  (
  BIf wasBalanced10 (
  BIf wasPartitioned11 (
  BIf (decide (hint175 = 1)) (
  Calls Tryd.prog aG ⟨[data1.v, (.int .i64 a7), (.int .i64 b8), (.func (.func 16) ⟨[]⟩ ⟨[]⟩)]⟩ w176 fun e191 w192 =>
  ∃ b193, e191 = .returned (.bool b193) /\
  BIf b193 (
  K (.tuple #[]) w192) (
  J190 w192)) (
  J190 w176)) (
  J190 w176)) (
  J190 w176)) /\ (
  ∀ w194 : World, J190 w194 -> ∀ _ _ _ _ _ _ _ _ _ _ _ _ _ : Value,
  ∃ J208 : (Int) -> World -> Prop,
  (
  BIf (decide (0 < a7)) (
  inR .i64 (a7 - 1) /\
  needSome data1.p fun a209 =>
  0 <= (a7 - 1) /\ (a7 - 1) < (data1.l : Int) /\
  ∃ n210 : Int, ∃ n211 : Int, ∃ n212 : Int, ∃ n213 : Int, ∃ s214 : Slc, rowAt w194.drew (Addr.add a209 ((Int.toNat (a7 - 1)) * 5)) 0 [(.int .i64 n210), (.int .i64 n211), (.int .i64 n212), (.int .i64 n213), s214.v] /\
  needSome data1.p fun a215 =>
  0 <= pivot174 /\ pivot174 < (data1.l : Int) /\
  ∃ n216 : Int, ∃ n217 : Int, ∃ n218 : Int, ∃ n219 : Int, ∃ s220 : Slc, rowAt w194.drew (Addr.add a215 ((Int.toNat pivot174) * 5)) 0 [(.int .i64 n216), (.int .i64 n217), (.int .i64 n218), (.int .i64 n219), s220.v] /\
  Calls Tryd.prog ak ⟨[(.agg ⟨[(.int .i64 n210), (.int .i64 n211), (.int .i64 n212), (.int .i64 n213), s214.v]⟩), (.agg ⟨[(.int .i64 n216), (.int .i64 n217), (.int .i64 n218), (.int .i64 n219), s220.v]⟩)]⟩ w194.drew fun e221 w222 =>
  ∃ n223, e221 = .returned (.int .i64 n223) /\
  BIf (!(decide (n223 < 0))) (
  Calls Tryd.prog cV ⟨[data1.v, (.int .i64 a7), (.int .i64 b8), (.int .i64 pivot174), (.func (.func 16) ⟨[]⟩ ⟨[]⟩)]⟩ w222 fun e224 w225 =>
  ∃ n226, e224 = .returned (.int .i64 n226) /\
  (I5 (n226) (b8) (limit156) (wasBalanced10) (wasPartitioned11) w225 /\ mu6 (n226) (b8) (limit156) (wasBalanced10) (wasPartitioned11) w225 < mu6 a7 b8 limit9 wasBalanced10 wasPartitioned11 w12)) (
  J208 (a7) w222)) (
  J208 (a7) w194.drew)) /\ (
  ∀ a227 : Int, ∀ w228 : World, J208 a227 w228 -> ∀ _ _ _ _ _ _ _ _ _ _ _ _ _ _ _ _ _ _ _ _ _ _ _ _ _ : Value,
  Calls Tryd.prog bj ⟨[data1.v, (.int .i64 a227), (.int .i64 b8), (.int .i64 pivot174), (.func (.func 16) ⟨[]⟩ ⟨[]⟩)]⟩ w228 fun e254 w255 =>
  ∃ n256 : Int, ∃ b257, e254 = .returned (.tuple ⟨[(.int .i64 n256), (.bool b257)]⟩) /\
  inR .i64 (n256 - a227) /\
  inR .i64 (b8 - n256) /\
  0 <= (b8 - a7) /\ 0 < (8 : Int) /\ inR .i64 (b8 - a7) /\
  BIf (decide ((n256 - a227) < (b8 - n256))) (
  Calls Tryd.prog aF ⟨[data1.v, (.int .i64 a227), (.int .i64 n256), (.int .i64 limit156), (.func (.func 16) ⟨[]⟩ ⟨[]⟩)]⟩ w255 fun e258 w259 =>
  e258 = .returned (.tuple #[]) /\
  inR .i64 (n256 + 1) /\
  (I5 ((n256 + 1)) (b8) (limit156) ((decide (((b8 - a7) / (8 : Int)) <= (n256 - a227)))) (b257) w259 /\ mu6 ((n256 + 1)) (b8) (limit156) ((decide (((b8 - a7) / (8 : Int)) <= (n256 - a227)))) (b257) w259 < mu6 a7 b8 limit9 wasBalanced10 wasPartitioned11 w12)) (
  inR .i64 (n256 + 1) /\
  Calls Tryd.prog aF ⟨[data1.v, (.int .i64 (n256 + 1)), (.int .i64 b8), (.int .i64 limit156), (.func (.func 16) ⟨[]⟩ ⟨[]⟩)]⟩ w255 fun e260 w261 =>
  e260 = .returned (.tuple #[]) /\
  (I5 (a227) (n256) (limit156) ((decide (((b8 - a7) / (8 : Int)) <= (b8 - n256)))) (b257) w261 /\ mu6 (a227) (n256) (limit156) ((decide (((b8 - a7) / (8 : Int)) <= (b8 - n256)))) (b257) w261 < mu6 a7 b8 limit9 wasBalanced10 wasPartitioned11 w12)))))))))
theorem cu (data1 : Slc) (a2 : Int) (b3 : Int) (limit4 : Int) {w : World} {R : Ending -> World -> Prop} (h : bp data1 a2 b3 limit4 w fun v w' => R (.returned v) w') : Calls Tryd.prog aF ⟨[data1.v, (.int .i64 a2), (.int .i64 b3), (.int .i64 limit4), (.func (.func 16) ⟨[]⟩ ⟨[]⟩)]⟩ w R :=
  ae (ann := (.two .none (.two .none (.one (.loop [(1, (Sh.int .i64)), (2, (Sh.int .i64)), (3, (Sh.int .i64)), (10, Sh.bool), (11, Sh.bool)] (List.range' 12 136) (.one (.two .none (.two .none (.two .none (.cut [(3, (Sh.int .i64))] (List.range' 38 9) .none (.two .none (.cut [(13, (Sh.int .i64)), (14, (Sh.int .i64))] (List.range' 55 13) .none (.cut [] (List.range' 68 13) .none (.cut [(1, (Sh.int .i64))] ([15] ++ List.range' 81 24) .none .none)))))))))))))) aj mixed Tryd.func24 (Eq.mp (by kernel_rfl) h)
def bI (x1 : Slc) (w : World) (K : Value -> World -> Prop) : Prop :=
  Calls Tryd.prog bG ⟨[(.int .u64 (IntKind.wrap .u64 (x1.l : Int)))]⟩ w fun e2 w3 =>
  ∃ n4, e2 = .returned (.int .i64 n4) /\
  Calls Tryd.prog aF ⟨[x1.v, (.int .i64 0), (.int .i64 (x1.l : Int)), (.int .i64 n4), (.func (.func 16) ⟨[]⟩ ⟨[]⟩)]⟩ w3 fun e5 w6 =>
  e5 = .returned (.tuple #[]) /\
  K (.tuple #[]) w6
theorem cW (x1 : Slc) {w : World} {R : Ending -> World -> Prop} (h : bI x1 w fun v w' => R (.returned v) w') : Calls Tryd.prog bU ⟨[x1.v, (.func (.func 16) ⟨[]⟩ ⟨[]⟩)]⟩ w R :=
  ae (ann := .none) aj mixed Tryd.func15 (Eq.mp (by kernel_rfl) h)
def j2 (pages1 : Slc) (shard2 : Int) (w : World) (K : Value -> World -> Prop) : Prop :=
  Calls Tryd.prog ec ⟨[pages1.v, (.int .i64 shard2)]⟩ w fun e3 w4 =>
  ∃ m5 : Option Nat, e3 = .returned (Value.map m5) /\
  ∃ it6 : Obj, ly w4 m5 it6 /\
  aK w4 (it6) fun r7 w8 =>
  ∃ (I9 : (Slc) -> World -> Prop) (mu10 : (Slc) -> World -> Nat), I9 (⟨none, 0, 0⟩) w8 /\ (
  ∀ out11 : Slc, ∀ w12 : World, I9 out11 w12 -> ∀ _ _ _ _ _ _ _ _ _ _ _ _ _ _ _ _ _ : Value,
  oh w12 r7 (fun kk30 vv31 w32 =>
  ∃ kk33 vv34 : Value, ju w32 r7 (.tuple ⟨[kk33, vv34]⟩) /\
  Sh.dec Sh.ptr vv34 fun (p35 : Option Addr) =>
  Calls Tryd.prog cj ⟨[(.pointer p35)]⟩ w32 fun e36 w37 =>
  ∃ x38 : Int, ∃ x39 : Int, ∃ x40 : Int, ∃ x41 : Int, ∃ x42 : Slc, ∃ b43, e36 = .returned (.tuple ⟨[(.agg ⟨[(.int .i64 x38), (.int .i64 x39), (.int .i64 x40), (.int .i64 x41), x42.v]⟩), (.bool b43)]⟩) /\
  aK w37 (.cells ⟨[(.int .i64 0), (.int .i64 0), (.int .i64 0), (.int .i64 0), (Slc.v ⟨none, 0, 0⟩)]⟩ 35) fun r44 w45 =>
  aw w45 ⟨r44, 0, none⟩ 5 /\ ∀ w46, w46 = setCells w45 ⟨r44, 0, none⟩ 0 [(.int .i64 x38), (.int .i64 x39), (.int .i64 x40), (.int .i64 x41), x42.v] ->
  BIf b43 (
  ∃ n47 : Int, ∃ n48 : Int, ∃ n49 : Int, ∃ n50 : Int, ∃ s51 : Slc, rowAt w46 ⟨r44, 0, none⟩ 0 [(.int .i64 n47), (.int .i64 n48), (.int .i64 n49), (.int .i64 n50), s51.v] /\
  aK w46 (.cells ⟨[(.int .i64 n47), (.int .i64 n48), (.int .i64 n49), (.int .i64 n50), s51.v]⟩ 35) fun r52 w53 =>
  bA 5 35 [(.int .i64 0), (.int .i64 0), (.int .i64 0), (.int .i64 0), (Slc.v ⟨none, 0, 0⟩)] w53 out11 (.slc (⟨(some ⟨r52, 0, none⟩), 1, 1⟩ : Slc)) fun s54 w55 =>
  (I9 (s54) w55 /\ mu10 (s54) w55 < mu10 out11 w12)) (
  (I9 (out11) w46 /\ mu10 (out11) w46 < mu10 out11 w12))) (
  Calls Tryd.prog bU ⟨[out11.v, (.func (.func 16) ⟨[]⟩ ⟨[]⟩)]⟩ w12 fun e56 w57 =>
  e56 = .returned (.tuple #[]) /\
  K out11.v w57))
theorem kF (pages1 : Slc) (shard2 : Int) {w : World} {R : Ending -> World -> Prop} (h : j2 pages1 shard2 w fun v w' => R (.returned v) w') : Calls Tryd.prog dJ ⟨[pages1.v, (.int .i64 shard2)]⟩ w R :=
  ae (ann := (.two .none (.two .none (.two (.two .none (.one (.loop [(5, Sh.slc)] ([7, 8, 9] ++ List.range' 14 14) .none))) .none)))) aj mixed Tryd.func7 (Eq.mp (by kernel_rfl) h)
def dx (s1 : Slc) (w : World) (K : Value -> World -> Prop) : Prop :=
  aK w (.cells ⟨[s1.v]⟩ 28) fun r2 w3 =>
  K (.func (.func 28) ⟨[]⟩ ⟨[(.pointer (some ⟨r2, 0, none⟩))]⟩) w3
theorem fc (s1 : Slc) {w : World} {R : Ending -> World -> Prop} (h : dx s1 w fun v w' => R (.returned v) w') : Calls Tryd.prog bV ⟨[s1.v]⟩ w R :=
  ae (ann := .none) aj mixed Tryd.func18 (Eq.mp (by kernel_rfl) h)
def dk (lr1 : Nat) (cap2 : Option Addr) (w : World) (K : Value -> World -> Prop) : Prop :=
  needSome cap2 fun a3 =>
  ∃ s4, w.cell? a3 = some (Slc.v s4) /\
  inR .i64 ((s4.l : Int) - (1 : Int)) /\
  ∃ (I5 : (Int) -> World -> Prop) (mu6 : (Int) -> World -> Nat), I5 (((s4.l : Int) - (1 : Int))) w /\ (
  ∀ i7 : Int, ∀ w8 : World, I5 i7 w8 -> ∀ _ _ _ _ _ _ _ _ _ _ _ _ : Value,
  BIf (decide (0 <= i7)) (
  needSome cap2 fun a21 =>
  ∃ s22, w8.cell? a21 = some (Slc.v s22) /\
  needSome s22.p fun a23 =>
  0 <= i7 /\ i7 < (s22.l : Int) /\
  ∃ n24 : Int, ∃ n25 : Int, ∃ n26 : Int, ∃ n27 : Int, ∃ s28 : Slc, rowAt w8 (Addr.add a23 ((Int.toNat i7) * 5)) 0 [(.int .i64 n24), (.int .i64 n25), (.int .i64 n26), (.int .i64 n27), s28.v] /\
  dD Tryd.prog lr1 ⟨[(.int .i64 i7), (.agg ⟨[(.int .i64 n24), (.int .i64 n25), (.int .i64 n26), (.int .i64 n27), s28.v]⟩)]⟩ w8 fun e29 w30 =>
  ∃ b31, e29 = .returned (.bool b31) /\
  BIf (!b31) (
  K (.tuple #[]) w30) (
  inR .i64 (i7 - 1) /\
  (I5 ((i7 - 1)) w30 /\ mu6 ((i7 - 1)) w30 < mu6 i7 w8))) (
  K (.tuple #[]) w8))
theorem eE (lr1 : Nat) (cap2 : Option Addr) {w : World} {R : Ending -> World -> Prop} (h : dk lr1 cap2 w fun v w' => R (.returned v) w') : Calls Tryd.prog aO ⟨[(.func (.yield lr1) ⟨[]⟩ ⟨[]⟩), (.pointer cap2)]⟩ w R :=
  gR (ann := (.two .none (.one (.loop [(3, (Sh.int .i64))] (List.range' 7 12) .none)))) aj mixed Tryd.func28 (Eq.mp (by kernel_rfl) h)
def ix (pages1 : Slc) (shard2 : Int) (upto3 : Int) (w : World) (K : Value -> World -> Prop) : Prop :=
  aK w (.cells ⟨[(.int .i64 upto3)]⟩ 3) fun r4 w5 =>
  aK w5 (.cells ⟨[(.int .i64 0), (.int .i64 0), (.int .i64 0), (.int .i64 0), (Slc.v ⟨none, 0, 0⟩)]⟩ 35) fun r6 w7 =>
  aK w7 (.cells ⟨[(.bool false)]⟩ 4) fun r8 w9 =>
  Calls Tryd.prog dJ ⟨[pages1.v, (.int .i64 shard2)]⟩ w9 fun e10 w11 =>
  ∃ s12, e10 = .returned (Slc.v s12) /\
  Calls Tryd.prog bV ⟨[s12.v]⟩ w11 fun e13 w14 =>
  ∃ e15, e13 = .returned e15 /\
  ∃ (gf43 : Nat) (first44 cap45 : List Value), e15 = .func (.func gf43) ⟨first44⟩ ⟨cap45⟩ /\ mB gf43 = true /\
  ∀ (D16 lr17 : Nat) (rc18 : Rec) (w19 : World), D16 = (World.heap w14).size -> lr17 = D16 + 1 -> w19 = World.alloc (World.alloc w14 (.deferred (some []))) (.loop (rc18 .ready none)) ->
  (∀ n22 : Int, ∀ x23 : Int, ∀ x24 : Int, ∀ x25 : Int, ∀ x26 : Int, ∀ x27 : Slc, ∀ (w20 : World) (R21 : Ending -> World -> Prop), (World.heap w20)[lr17]? = some (.loop (rc18 .ready none)) -> (
  aK w20 (.cells ⟨[(.int .i64 0), (.int .i64 0), (.int .i64 0), (.int .i64 0), (Slc.v ⟨none, 0, 0⟩)]⟩ 35) fun r28 w29 =>
  aw w29 ⟨r28, 0, none⟩ 5 /\ ∀ w30, w30 = setCells w29 ⟨r28, 0, none⟩ 0 [(.int .i64 x23), (.int .i64 x24), (.int .i64 x25), (.int .i64 x26), x27.v] ->
  (World.heap w30)[lr17]? = some (.loop (rc18 .ready none)) /\ ∀ w31, w31 = World.putObj w30 lr17 (.loop (rc18 .busy none)) ->
  ∃ n32, w31.cell? ⟨r28, 0, none⟩ = some (.int .i64 n32) /\
  ∃ n33, w31.cell? ⟨r4, 0, none⟩ = some (.int .i64 n33) /\
  BIf (decide (n32 <= n33)) (
  ∃ n34 : Int, ∃ n35 : Int, ∃ n36 : Int, ∃ n37 : Int, ∃ s38 : Slc, rowAt w31 ⟨r28, 0, none⟩ 0 [(.int .i64 n34), (.int .i64 n35), (.int .i64 n36), (.int .i64 n37), s38.v] /\
  aw w31 ⟨r6, 0, none⟩ 5 /\ ∀ w39, w39 = setCells w31 ⟨r6, 0, none⟩ 0 [(.int .i64 n34), (.int .i64 n35), (.int .i64 n36), (.int .i64 n37), s38.v] ->
  aw w39 ⟨r8, 0, none⟩ 1 /\ ∀ w40, w40 = w39.setCell ⟨r8, 0, none⟩ (.bool true) ->
  (World.heap w40)[lr17]? = some (.loop (rc18 .busy none)) /\ ∀ w41, w41 = World.putObj w40 lr17 (.loop (rc18 .done (some Code.ret))) -> R21 (.returned (.bool false)) w41) (
  (World.heap w31)[lr17]? = some (.loop (rc18 .busy none)) /\ ∀ w42, w42 = World.putObj w31 lr17 (.loop (rc18 .ready none)) -> R21 (.returned (.bool true)) w42)) -> dD Tryd.prog lr17 ⟨[(.int .i64 n22), (.agg ⟨[(.int .i64 x23), (.int .i64 x24), (.int .i64 x25), (.int .i64 x26), x27.v]⟩)]⟩ w20 R21) ->
  Calls Tryd.prog gf43 ⟨first44 ++ .func (.yield lr17) #[] #[] :: cap45⟩ w19 fun e46 w47 => (∃ v, e46 = .returned v) /\ (
  ((World.heap w47)[lr17]? = some (.loop (rc18 .done (some Code.ret))) /\ ∀ w48, w48 = World.putObj w47 lr17 (.loop (rc18 .exhausted (some Code.ret))) ->
  (World.heap w48)[D16]? = some (.deferred (some [])) /\ ∀ w49, w49 = World.putObj w48 D16 (.deferred none) ->
  ∃ n50 : Int, ∃ n51 : Int, ∃ n52 : Int, ∃ n53 : Int, ∃ s54 : Slc, rowAt w49 ⟨r6, 0, none⟩ 0 [(.int .i64 n50), (.int .i64 n51), (.int .i64 n52), (.int .i64 n53), s54.v] /\
  ∃ b55, w49.cell? ⟨r8, 0, none⟩ = some (.bool b55) /\
  K (.tuple ⟨[(.agg ⟨[(.int .i64 n50), (.int .i64 n51), (.int .i64 n52), (.int .i64 n53), s54.v]⟩), (.bool b55)]⟩) w49) \/
  ((World.heap w47)[lr17]? = some (.loop (rc18 .ready none)) /\ ∀ w56, w56 = World.putObj w47 lr17 (.loop (rc18 .exhausted none)) ->
  aw w56 ⟨r6, 0, none⟩ 5 /\ ∀ w57, w57 = setCells w56 ⟨r6, 0, none⟩ 0 [(.int .i64 0), (.int .i64 0), (.int .i64 0), (.int .i64 0), (Slc.v ⟨none, 0, 0⟩)] ->
  aw w57 ⟨r8, 0, none⟩ 1 /\ ∀ w58, w58 = w57.setCell ⟨r8, 0, none⟩ (.bool false) ->
  (World.heap w58)[D16]? = some (.deferred (some [])) /\ ∀ w59, w59 = World.putObj w58 D16 (.deferred none) ->
  ∃ n60 : Int, ∃ n61 : Int, ∃ n62 : Int, ∃ n63 : Int, ∃ s64 : Slc, rowAt w59 ⟨r6, 0, none⟩ 0 [(.int .i64 n60), (.int .i64 n61), (.int .i64 n62), (.int .i64 n63), s64.v] /\
  ∃ b65, w59.cell? ⟨r8, 0, none⟩ = some (.bool b65) /\
  K (.tuple ⟨[(.agg ⟨[(.int .i64 n60), (.int .i64 n61), (.int .i64 n62), (.int .i64 n63), s64.v]⟩), (.bool b65)]⟩) w59))
theorem jl (pages1 : Slc) (shard2 : Int) (upto3 : Int) {w : World} {R : Ending -> World -> Prop} (h : ix pages1 shard2 upto3 w fun v w' => R (.returned v) w') : Calls Tryd.prog eb ⟨[pages1.v, (.int .i64 shard2), (.int .i64 upto3)]⟩ w R :=
  gS (ann := (.two .none (.two (.two .none (.one (.range [.one (Sh.int .i64), .agg [(Sh.int .i64), (Sh.int .i64), (Sh.int .i64), (Sh.int .i64), Sh.slc]] [.ret] .none .none))) .none))) aj mixed Tryd.func10 (Eq.mp (by kernel_rfl) h)
end Go.D

