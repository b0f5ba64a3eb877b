/-
  WHAT IS PROVED: verification conditions of functions of this program, each with its soundness. No further conditions.
-/
import Derived.Test.YtecmadidakoppaaDoorBase
set_option linter.unusedSimpArgs false
set_option maxRecDepth 100000
set_option linter.unusedVariables false
namespace Go.D
open Go Go.Proofs
/-- cmp.isNaN[int] -/
def cmp_isNaN_int (x1 : Int) (w : World) (K : Value → World → Prop) : Prop :=
  K (Value.bool (!decide (x1 = x1))) w

theorem cmp_isNaN_int_eq (x1 : Int) (w : World) (K : Value → World → Prop) : cmp_isNaN_int x1 w K = denF Tryd.prog callB Tryd.f63 .none [(Value.int .i64 x1)] w K := by kernel_rfl
theorem cmp_isNaN_int_ok (x1 : Int) {w : World} {R : Ending → World → Prop} (h : cmp_isNaN_int x1 w fun v w' => R (.returned v) w') : Calls Tryd.prog fn_cmp_isNaN_int ⟨[(Value.int .i64 x1)]⟩ w R :=
  calls_of_den callB_ok mixed Tryd.func63 (cmp_isNaN_int_eq x1 w _ ▸ h)

/-- cmp.Less[int] -/
def cmp_Less_int (x1 : Int) (y2 : Int) (w : World) (K : Value → World → Prop) : Prop :=
  Calls Tryd.prog fn_cmp_isNaN_int ⟨[(Value.int .i64 x1)]⟩ w fun e3 w4 =>
  ∃ b5 : Bool, e3 = .returned (Value.bool b5) ∧
  BIf b5 (
    Calls Tryd.prog fn_cmp_isNaN_int ⟨[(Value.int .i64 y2)]⟩ w4 fun e6 w7 =>
    ∃ b8 : Bool, e6 = .returned (Value.bool b8) ∧
    BIf (!b8) (
      K (Value.bool true) w7) (
      K (Value.bool (decide (x1 < y2))) w7)) (
    K (Value.bool (decide (x1 < y2))) w4)

theorem cmp_Less_int_eq (x1 : Int) (y2 : Int) (w : World) (K : Value → World → Prop) : cmp_Less_int x1 y2 w K = denF Tryd.prog callB Tryd.f53 .none [(Value.int .i64 x1), (Value.int .i64 y2)] w K := by kernel_rfl
theorem cmp_Less_int_ok (x1 : Int) (y2 : Int) {w : World} {R : Ending → World → Prop} (h : cmp_Less_int x1 y2 w fun v w' => R (.returned v) w') : Calls Tryd.prog fn_cmp_Less_int ⟨[(Value.int .i64 x1), (Value.int .i64 y2)]⟩ w R :=
  calls_of_den callB_ok mixed Tryd.func53 (cmp_Less_int_eq x1 y2 w _ ▸ h)

/-- math/bits.Len -/
def math_bits_Len (x1 : Int) (w : World) (K : Value → World → Prop) : Prop :=
  Calls Tryd.prog fn_math_bits_Len64 ⟨[(Value.int .u64 x1)]⟩ w fun e2 w3 =>
  ∃ n4 : Int, e2 = .returned (Value.int .i64 n4) ∧
  K (Value.int .i64 n4) w3

theorem math_bits_Len_eq (x1 : Int) (w : World) (K : Value → World → Prop) : math_bits_Len x1 w K = denF Tryd.prog callB Tryd.f46 .none [(Value.int .u64 x1)] w K := by kernel_rfl
theorem math_bits_Len_ok (x1 : Int) {w : World} {R : Ending → World → Prop} (h : math_bits_Len x1 w fun v w' => R (.returned v) w') : Calls Tryd.prog fn_math_bits_Len ⟨[(Value.int .u64 x1)]⟩ w R :=
  calls_of_den callB_ok mixed Tryd.func46 (math_bits_Len_eq x1 w _ ▸ h)

/-- math/bits.Len64 -/
def math_bits_Len64 (x1 : Int) (w : World) (K : Value → World → Prop) : Prop :=
  ∃ J2 : (Int) → (Int) → World → Prop,
  (
    BIf (decide ((4294967296 : Int) ≤ x1)) (
      0 ≤ (32 : Int) ∧ 0 ≤ x1 ∧
      J2 ((x1 / 4294967296)) ((32 : Int)) w) (
      J2 (x1) ((0 : Int)) w)) ∧ (
  ∀ x3 : Int, ∀ n4 : Int, ∀ w5 : World, J2 x3 n4 w5 → ∀ u6 u7 u8 u9 : Value,
    ∃ J10 : (Int) → (Int) → World → Prop,
    (
      BIf (decide ((65536 : Int) ≤ x3)) (
        0 ≤ (16 : Int) ∧ 0 ≤ x3 ∧
        inR .i64 (n4 + (16 : Int)) ∧
        J10 ((x3 / 65536)) ((n4 + (16 : Int))) w5) (
        J10 (x3) (n4) w5)) ∧ (
    ∀ x11 : Int, ∀ n12 : Int, ∀ w13 : World, J10 x11 n12 w13 → ∀ u14 u15 u16 u17 u18 u19 : Value,
      BIf (decide ((256 : Int) ≤ x11)) (
        0 ≤ (8 : Int) ∧ 0 ≤ x11 ∧
        inR .i64 (n12 + (8 : Int)) ∧
        0 ≤ (IntKind.wrap .u8 (x11 / 256)) ∧ (IntKind.wrap .u8 (x11 / 256)) < ((List.length ([0, 1, 2, 2, 3, 3, 3, 3, 4, 4, 4, 4, 4, 4, 4, 4, 5, 5, 5, 5, 5, 5, 5, 5, 5, 5, 5, 5, 5, 5, 5, 5, 6, 6, 6, 6, 6, 6, 6, 6, 6, 6, 6, 6, 6, 6, 6, 6, 6, 6, 6, 6, 6, 6, 6, 6, 6, 6, 6, 6, 6, 6, 6, 6, 7, 7, 7, 7, 7, 7, 7, 7, 7, 7, 7, 7, 7, 7, 7, 7, 7, 7, 7, 7, 7, 7, 7, 7, 7, 7, 7, 7, 7, 7, 7, 7, 7, 7, 7, 7, 7, 7, 7, 7, 7, 7, 7, 7, 7, 7, 7, 7, 7, 7, 7, 7, 7, 7, 7, 7, 7, 7, 7, 7, 7, 7, 7, 7, 8, 8, 8, 8, 8, 8, 8, 8, 8, 8, 8, 8, 8, 8, 8, 8, 8, 8, 8, 8, 8, 8, 8, 8, 8, 8, 8, 8, 8, 8, 8, 8, 8, 8, 8, 8, 8, 8, 8, 8, 8, 8, 8, 8, 8, 8, 8, 8, 8, 8, 8, 8, 8, 8, 8, 8, 8, 8, 8, 8, 8, 8, 8, 8, 8, 8, 8, 8, 8, 8, 8, 8, 8, 8, 8, 8, 8, 8, 8, 8, 8, 8, 8, 8, 8, 8, 8, 8, 8, 8, 8, 8, 8, 8, 8, 8, 8, 8, 8, 8, 8, 8, 8, 8, 8, 8, 8, 8, 8, 8, 8, 8, 8, 8, 8, 8, 8, 8, 8, 8, 8, 8, 8, 8, 8, 8, 8, 8] : List UInt8) : Nat) : Int) ∧
        inR .i64 ((UInt8.toNat (List.getD ([0, 1, 2, 2, 3, 3, 3, 3, 4, 4, 4, 4, 4, 4, 4, 4, 5, 5, 5, 5, 5, 5, 5, 5, 5, 5, 5, 5, 5, 5, 5, 5, 6, 6, 6, 6, 6, 6, 6, 6, 6, 6, 6, 6, 6, 6, 6, 6, 6, 6, 6, 6, 6, 6, 6, 6, 6, 6, 6, 6, 6, 6, 6, 6, 7, 7, 7, 7, 7, 7, 7, 7, 7, 7, 7, 7, 7, 7, 7, 7, 7, 7, 7, 7, 7, 7, 7, 7, 7, 7, 7, 7, 7, 7, 7, 7, 7, 7, 7, 7, 7, 7, 7, 7, 7, 7, 7, 7, 7, 7, 7, 7, 7, 7, 7, 7, 7, 7, 7, 7, 7, 7, 7, 7, 7, 7, 7, 7, 8, 8, 8, 8, 8, 8, 8, 8, 8, 8, 8, 8, 8, 8, 8, 8, 8, 8, 8, 8, 8, 8, 8, 8, 8, 8, 8, 8, 8, 8, 8, 8, 8, 8, 8, 8, 8, 8, 8, 8, 8, 8, 8, 8, 8, 8, 8, 8, 8, 8, 8, 8, 8, 8, 8, 8, 8, 8, 8, 8, 8, 8, 8, 8, 8, 8, 8, 8, 8, 8, 8, 8, 8, 8, 8, 8, 8, 8, 8, 8, 8, 8, 8, 8, 8, 8, 8, 8, 8, 8, 8, 8, 8, 8, 8, 8, 8, 8, 8, 8, 8, 8, 8, 8, 8, 8, 8, 8, 8, 8, 8, 8, 8, 8, 8, 8, 8, 8, 8, 8, 8, 8, 8, 8, 8, 8, 8, 8] : List UInt8) (Int.toNat (IntKind.wrap .u8 (x11 / 256))) 0) : Nat) : Int) ∧
        inR .i64 ((n12 + (8 : Int)) + ((UInt8.toNat (List.getD ([0, 1, 2, 2, 3, 3, 3, 3, 4, 4, 4, 4, 4, 4, 4, 4, 5, 5, 5, 5, 5, 5, 5, 5, 5, 5, 5, 5, 5, 5, 5, 5, 6, 6, 6, 6, 6, 6, 6, 6, 6, 6, 6, 6, 6, 6, 6, 6, 6, 6, 6, 6, 6, 6, 6, 6, 6, 6, 6, 6, 6, 6, 6, 6, 7, 7, 7, 7, 7, 7, 7, 7, 7, 7, 7, 7, 7, 7, 7, 7, 7, 7, 7, 7, 7, 7, 7, 7, 7, 7, 7, 7, 7, 7, 7, 7, 7, 7, 7, 7, 7, 7, 7, 7, 7, 7, 7, 7, 7, 7, 7, 7, 7, 7, 7, 7, 7, 7, 7, 7, 7, 7, 7, 7, 7, 7, 7, 7, 8, 8, 8, 8, 8, 8, 8, 8, 8, 8, 8, 8, 8, 8, 8, 8, 8, 8, 8, 8, 8, 8, 8, 8, 8, 8, 8, 8, 8, 8, 8, 8, 8, 8, 8, 8, 8, 8, 8, 8, 8, 8, 8, 8, 8, 8, 8, 8, 8, 8, 8, 8, 8, 8, 8, 8, 8, 8, 8, 8, 8, 8, 8, 8, 8, 8, 8, 8, 8, 8, 8, 8, 8, 8, 8, 8, 8, 8, 8, 8, 8, 8, 8, 8, 8, 8, 8, 8, 8, 8, 8, 8, 8, 8, 8, 8, 8, 8, 8, 8, 8, 8, 8, 8, 8, 8, 8, 8, 8, 8, 8, 8, 8, 8, 8, 8, 8, 8, 8, 8, 8, 8, 8, 8, 8, 8, 8, 8] : List UInt8) (Int.toNat (IntKind.wrap .u8 (x11 / 256))) 0) : Nat) : Int)) ∧
        K (Value.int .i64 ((n12 + (8 : Int)) + ((UInt8.toNat (List.getD ([0, 1, 2, 2, 3, 3, 3, 3, 4, 4, 4, 4, 4, 4, 4, 4, 5, 5, 5, 5, 5, 5, 5, 5, 5, 5, 5, 5, 5, 5, 5, 5, 6, 6, 6, 6, 6, 6, 6, 6, 6, 6, 6, 6, 6, 6, 6, 6, 6, 6, 6, 6, 6, 6, 6, 6, 6, 6, 6, 6, 6, 6, 6, 6, 7, 7, 7, 7, 7, 7, 7, 7, 7, 7, 7, 7, 7, 7, 7, 7, 7, 7, 7, 7, 7, 7, 7, 7, 7, 7, 7, 7, 7, 7, 7, 7, 7, 7, 7, 7, 7, 7, 7, 7, 7, 7, 7, 7, 7, 7, 7, 7, 7, 7, 7, 7, 7, 7, 7, 7, 7, 7, 7, 7, 7, 7, 7, 7, 8, 8, 8, 8, 8, 8, 8, 8, 8, 8, 8, 8, 8, 8, 8, 8, 8, 8, 8, 8, 8, 8, 8, 8, 8, 8, 8, 8, 8, 8, 8, 8, 8, 8, 8, 8, 8, 8, 8, 8, 8, 8, 8, 8, 8, 8, 8, 8, 8, 8, 8, 8, 8, 8, 8, 8, 8, 8, 8, 8, 8, 8, 8, 8, 8, 8, 8, 8, 8, 8, 8, 8, 8, 8, 8, 8, 8, 8, 8, 8, 8, 8, 8, 8, 8, 8, 8, 8, 8, 8, 8, 8, 8, 8, 8, 8, 8, 8, 8, 8, 8, 8, 8, 8, 8, 8, 8, 8, 8, 8, 8, 8, 8, 8, 8, 8, 8, 8, 8, 8, 8, 8, 8, 8, 8, 8, 8, 8] : List UInt8) (Int.toNat (IntKind.wrap .u8 (x11 / 256))) 0) : Nat) : Int))) w13) (
        0 ≤ (IntKind.wrap .u8 x11) ∧ (IntKind.wrap .u8 x11) < ((List.length ([0, 1, 2, 2, 3, 3, 3, 3, 4, 4, 4, 4, 4, 4, 4, 4, 5, 5, 5, 5, 5, 5, 5, 5, 5, 5, 5, 5, 5, 5, 5, 5, 6, 6, 6, 6, 6, 6, 6, 6, 6, 6, 6, 6, 6, 6, 6, 6, 6, 6, 6, 6, 6, 6, 6, 6, 6, 6, 6, 6, 6, 6, 6, 6, 7, 7, 7, 7, 7, 7, 7, 7, 7, 7, 7, 7, 7, 7, 7, 7, 7, 7, 7, 7, 7, 7, 7, 7, 7, 7, 7, 7, 7, 7, 7, 7, 7, 7, 7, 7, 7, 7, 7, 7, 7, 7, 7, 7, 7, 7, 7, 7, 7, 7, 7, 7, 7, 7, 7, 7, 7, 7, 7, 7, 7, 7, 7, 7, 8, 8, 8, 8, 8, 8, 8, 8, 8, 8, 8, 8, 8, 8, 8, 8, 8, 8, 8, 8, 8, 8, 8, 8, 8, 8, 8, 8, 8, 8, 8, 8, 8, 8, 8, 8, 8, 8, 8, 8, 8, 8, 8, 8, 8, 8, 8, 8, 8, 8, 8, 8, 8, 8, 8, 8, 8, 8, 8, 8, 8, 8, 8, 8, 8, 8, 8, 8, 8, 8, 8, 8, 8, 8, 8, 8, 8, 8, 8, 8, 8, 8, 8, 8, 8, 8, 8, 8, 8, 8, 8, 8, 8, 8, 8, 8, 8, 8, 8, 8, 8, 8, 8, 8, 8, 8, 8, 8, 8, 8, 8, 8, 8, 8, 8, 8, 8, 8, 8, 8, 8, 8, 8, 8, 8, 8, 8, 8] : List UInt8) : Nat) : Int) ∧
        inR .i64 ((UInt8.toNat (List.getD ([0, 1, 2, 2, 3, 3, 3, 3, 4, 4, 4, 4, 4, 4, 4, 4, 5, 5, 5, 5, 5, 5, 5, 5, 5, 5, 5, 5, 5, 5, 5, 5, 6, 6, 6, 6, 6, 6, 6, 6, 6, 6, 6, 6, 6, 6, 6, 6, 6, 6, 6, 6, 6, 6, 6, 6, 6, 6, 6, 6, 6, 6, 6, 6, 7, 7, 7, 7, 7, 7, 7, 7, 7, 7, 7, 7, 7, 7, 7, 7, 7, 7, 7, 7, 7, 7, 7, 7, 7, 7, 7, 7, 7, 7, 7, 7, 7, 7, 7, 7, 7, 7, 7, 7, 7, 7, 7, 7, 7, 7, 7, 7, 7, 7, 7, 7, 7, 7, 7, 7, 7, 7, 7, 7, 7, 7, 7, 7, 8, 8, 8, 8, 8, 8, 8, 8, 8, 8, 8, 8, 8, 8, 8, 8, 8, 8, 8, 8, 8, 8, 8, 8, 8, 8, 8, 8, 8, 8, 8, 8, 8, 8, 8, 8, 8, 8, 8, 8, 8, 8, 8, 8, 8, 8, 8, 8, 8, 8, 8, 8, 8, 8, 8, 8, 8, 8, 8, 8, 8, 8, 8, 8, 8, 8, 8, 8, 8, 8, 8, 8, 8, 8, 8, 8, 8, 8, 8, 8, 8, 8, 8, 8, 8, 8, 8, 8, 8, 8, 8, 8, 8, 8, 8, 8, 8, 8, 8, 8, 8, 8, 8, 8, 8, 8, 8, 8, 8, 8, 8, 8, 8, 8, 8, 8, 8, 8, 8, 8, 8, 8, 8, 8, 8, 8, 8, 8] : List UInt8) (Int.toNat (IntKind.wrap .u8 x11)) 0) : Nat) : Int) ∧
        inR .i64 (n12 + ((UInt8.toNat (List.getD ([0, 1, 2, 2, 3, 3, 3, 3, 4, 4, 4, 4, 4, 4, 4, 4, 5, 5, 5, 5, 5, 5, 5, 5, 5, 5, 5, 5, 5, 5, 5, 5, 6, 6, 6, 6, 6, 6, 6, 6, 6, 6, 6, 6, 6, 6, 6, 6, 6, 6, 6, 6, 6, 6, 6, 6, 6, 6, 6, 6, 6, 6, 6, 6, 7, 7, 7, 7, 7, 7, 7, 7, 7, 7, 7, 7, 7, 7, 7, 7, 7, 7, 7, 7, 7, 7, 7, 7, 7, 7, 7, 7, 7, 7, 7, 7, 7, 7, 7, 7, 7, 7, 7, 7, 7, 7, 7, 7, 7, 7, 7, 7, 7, 7, 7, 7, 7, 7, 7, 7, 7, 7, 7, 7, 7, 7, 7, 7, 8, 8, 8, 8, 8, 8, 8, 8, 8, 8, 8, 8, 8, 8, 8, 8, 8, 8, 8, 8, 8, 8, 8, 8, 8, 8, 8, 8, 8, 8, 8, 8, 8, 8, 8, 8, 8, 8, 8, 8, 8, 8, 8, 8, 8, 8, 8, 8, 8, 8, 8, 8, 8, 8, 8, 8, 8, 8, 8, 8, 8, 8, 8, 8, 8, 8, 8, 8, 8, 8, 8, 8, 8, 8, 8, 8, 8, 8, 8, 8, 8, 8, 8, 8, 8, 8, 8, 8, 8, 8, 8, 8, 8, 8, 8, 8, 8, 8, 8, 8, 8, 8, 8, 8, 8, 8, 8, 8, 8, 8, 8, 8, 8, 8, 8, 8, 8, 8, 8, 8, 8, 8, 8, 8, 8, 8, 8, 8] : List UInt8) (Int.toNat (IntKind.wrap .u8 x11)) 0) : Nat) : Int)) ∧
        K (Value.int .i64 (n12 + ((UInt8.toNat (List.getD ([0, 1, 2, 2, 3, 3, 3, 3, 4, 4, 4, 4, 4, 4, 4, 4, 5, 5, 5, 5, 5, 5, 5, 5, 5, 5, 5, 5, 5, 5, 5, 5, 6, 6, 6, 6, 6, 6, 6, 6, 6, 6, 6, 6, 6, 6, 6, 6, 6, 6, 6, 6, 6, 6, 6, 6, 6, 6, 6, 6, 6, 6, 6, 6, 7, 7, 7, 7, 7, 7, 7, 7, 7, 7, 7, 7, 7, 7, 7, 7, 7, 7, 7, 7, 7, 7, 7, 7, 7, 7, 7, 7, 7, 7, 7, 7, 7, 7, 7, 7, 7, 7, 7, 7, 7, 7, 7, 7, 7, 7, 7, 7, 7, 7, 7, 7, 7, 7, 7, 7, 7, 7, 7, 7, 7, 7, 7, 7, 8, 8, 8, 8, 8, 8, 8, 8, 8, 8, 8, 8, 8, 8, 8, 8, 8, 8, 8, 8, 8, 8, 8, 8, 8, 8, 8, 8, 8, 8, 8, 8, 8, 8, 8, 8, 8, 8, 8, 8, 8, 8, 8, 8, 8, 8, 8, 8, 8, 8, 8, 8, 8, 8, 8, 8, 8, 8, 8, 8, 8, 8, 8, 8, 8, 8, 8, 8, 8, 8, 8, 8, 8, 8, 8, 8, 8, 8, 8, 8, 8, 8, 8, 8, 8, 8, 8, 8, 8, 8, 8, 8, 8, 8, 8, 8, 8, 8, 8, 8, 8, 8, 8, 8, 8, 8, 8, 8, 8, 8, 8, 8, 8, 8, 8, 8, 8, 8, 8, 8, 8, 8, 8, 8, 8, 8, 8, 8] : List UInt8) (Int.toNat (IntKind.wrap .u8 x11)) 0) : Nat) : Int))) w13)))

theorem math_bits_Len64_eq (x1 : Int) (w : World) (K : Value → World → Prop) : math_bits_Len64 x1 w K = denF Tryd.prog callB Tryd.f57 (.two .none (.cut [(0, (Sh.int .u64)), (2, (Sh.int .i64))] [3, 4, 5, 6] .none (.cut [(0, (Sh.int .u64)), (2, (Sh.int .i64))] [7, 8, 9, 10, 11, 12] .none .none))) [(Value.int .u64 x1)] w K := by kernel_rfl
theorem math_bits_Len64_ok (x1 : Int) {w : World} {R : Ending → World → Prop} (h : math_bits_Len64 x1 w fun v w' => R (.returned v) w') : Calls Tryd.prog fn_math_bits_Len64 ⟨[(Value.int .u64 x1)]⟩ w R :=
  calls_of_den callB_ok mixed Tryd.func57 (math_bits_Len64_eq x1 w _ ▸ h)

/-- math/bits.Len32 -/
def math_bits_Len32 (x1 : Int) (w : World) (K : Value → World → Prop) : Prop :=
  ∃ J2 : (Int) → (Int) → World → Prop,
  (
    BIf (decide ((65536 : Int) ≤ x1)) (
      0 ≤ (16 : Int) ∧ 0 ≤ x1 ∧
      J2 ((x1 / 65536)) ((16 : Int)) w) (
      J2 (x1) ((0 : Int)) w)) ∧ (
  ∀ x3 : Int, ∀ n4 : Int, ∀ w5 : World, J2 x3 n4 w5 → ∀ u6 u7 u8 u9 : Value,
    BIf (decide ((256 : Int) ≤ x3)) (
      0 ≤ (8 : Int) ∧ 0 ≤ x3 ∧
      inR .i64 (n4 + (8 : Int)) ∧
      0 ≤ (IntKind.wrap .u8 (x3 / 256)) ∧ (IntKind.wrap .u8 (x3 / 256)) < ((List.length ([0, 1, 2, 2, 3, 3, 3, 3, 4, 4, 4, 4, 4, 4, 4, 4, 5, 5, 5, 5, 5, 5, 5, 5, 5, 5, 5, 5, 5, 5, 5, 5, 6, 6, 6, 6, 6, 6, 6, 6, 6, 6, 6, 6, 6, 6, 6, 6, 6, 6, 6, 6, 6, 6, 6, 6, 6, 6, 6, 6, 6, 6, 6, 6, 7, 7, 7, 7, 7, 7, 7, 7, 7, 7, 7, 7, 7, 7, 7, 7, 7, 7, 7, 7, 7, 7, 7, 7, 7, 7, 7, 7, 7, 7, 7, 7, 7, 7, 7, 7, 7, 7, 7, 7, 7, 7, 7, 7, 7, 7, 7, 7, 7, 7, 7, 7, 7, 7, 7, 7, 7, 7, 7, 7, 7, 7, 7, 7, 8, 8, 8, 8, 8, 8, 8, 8, 8, 8, 8, 8, 8, 8, 8, 8, 8, 8, 8, 8, 8, 8, 8, 8, 8, 8, 8, 8, 8, 8, 8, 8, 8, 8, 8, 8, 8, 8, 8, 8, 8, 8, 8, 8, 8, 8, 8, 8, 8, 8, 8, 8, 8, 8, 8, 8, 8, 8, 8, 8, 8, 8, 8, 8, 8, 8, 8, 8, 8, 8, 8, 8, 8, 8, 8, 8, 8, 8, 8, 8, 8, 8, 8, 8, 8, 8, 8, 8, 8, 8, 8, 8, 8, 8, 8, 8, 8, 8, 8, 8, 8, 8, 8, 8, 8, 8, 8, 8, 8, 8, 8, 8, 8, 8, 8, 8, 8, 8, 8, 8, 8, 8, 8, 8, 8, 8, 8, 8] : List UInt8) : Nat) : Int) ∧
      inR .i64 ((UInt8.toNat (List.getD ([0, 1, 2, 2, 3, 3, 3, 3, 4, 4, 4, 4, 4, 4, 4, 4, 5, 5, 5, 5, 5, 5, 5, 5, 5, 5, 5, 5, 5, 5, 5, 5, 6, 6, 6, 6, 6, 6, 6, 6, 6, 6, 6, 6, 6, 6, 6, 6, 6, 6, 6, 6, 6, 6, 6, 6, 6, 6, 6, 6, 6, 6, 6, 6, 7, 7, 7, 7, 7, 7, 7, 7, 7, 7, 7, 7, 7, 7, 7, 7, 7, 7, 7, 7, 7, 7, 7, 7, 7, 7, 7, 7, 7, 7, 7, 7, 7, 7, 7, 7, 7, 7, 7, 7, 7, 7, 7, 7, 7, 7, 7, 7, 7, 7, 7, 7, 7, 7, 7, 7, 7, 7, 7, 7, 7, 7, 7, 7, 8, 8, 8, 8, 8, 8, 8, 8, 8, 8, 8, 8, 8, 8, 8, 8, 8, 8, 8, 8, 8, 8, 8, 8, 8, 8, 8, 8, 8, 8, 8, 8, 8, 8, 8, 8, 8, 8, 8, 8, 8, 8, 8, 8, 8, 8, 8, 8, 8, 8, 8, 8, 8, 8, 8, 8, 8, 8, 8, 8, 8, 8, 8, 8, 8, 8, 8, 8, 8, 8, 8, 8, 8, 8, 8, 8, 8, 8, 8, 8, 8, 8, 8, 8, 8, 8, 8, 8, 8, 8, 8, 8, 8, 8, 8, 8, 8, 8, 8, 8, 8, 8, 8, 8, 8, 8, 8, 8, 8, 8, 8, 8, 8, 8, 8, 8, 8, 8, 8, 8, 8, 8, 8, 8, 8, 8, 8, 8] : List UInt8) (Int.toNat (IntKind.wrap .u8 (x3 / 256))) 0) : Nat) : Int) ∧
      inR .i64 ((n4 + (8 : Int)) + ((UInt8.toNat (List.getD ([0, 1, 2, 2, 3, 3, 3, 3, 4, 4, 4, 4, 4, 4, 4, 4, 5, 5, 5, 5, 5, 5, 5, 5, 5, 5, 5, 5, 5, 5, 5, 5, 6, 6, 6, 6, 6, 6, 6, 6, 6, 6, 6, 6, 6, 6, 6, 6, 6, 6, 6, 6, 6, 6, 6, 6, 6, 6, 6, 6, 6, 6, 6, 6, 7, 7, 7, 7, 7, 7, 7, 7, 7, 7, 7, 7, 7, 7, 7, 7, 7, 7, 7, 7, 7, 7, 7, 7, 7, 7, 7, 7, 7, 7, 7, 7, 7, 7, 7, 7, 7, 7, 7, 7, 7, 7, 7, 7, 7, 7, 7, 7, 7, 7, 7, 7, 7, 7, 7, 7, 7, 7, 7, 7, 7, 7, 7, 7, 8, 8, 8, 8, 8, 8, 8, 8, 8, 8, 8, 8, 8, 8, 8, 8, 8, 8, 8, 8, 8, 8, 8, 8, 8, 8, 8, 8, 8, 8, 8, 8, 8, 8, 8, 8, 8, 8, 8, 8, 8, 8, 8, 8, 8, 8, 8, 8, 8, 8, 8, 8, 8, 8, 8, 8, 8, 8, 8, 8, 8, 8, 8, 8, 8, 8, 8, 8, 8, 8, 8, 8, 8, 8, 8, 8, 8, 8, 8, 8, 8, 8, 8, 8, 8, 8, 8, 8, 8, 8, 8, 8, 8, 8, 8, 8, 8, 8, 8, 8, 8, 8, 8, 8, 8, 8, 8, 8, 8, 8, 8, 8, 8, 8, 8, 8, 8, 8, 8, 8, 8, 8, 8, 8, 8, 8, 8, 8] : List UInt8) (Int.toNat (IntKind.wrap .u8 (x3 / 256))) 0) : Nat) : Int)) ∧
      K (Value.int .i64 ((n4 + (8 : Int)) + ((UInt8.toNat (List.getD ([0, 1, 2, 2, 3, 3, 3, 3, 4, 4, 4, 4, 4, 4, 4, 4, 5, 5, 5, 5, 5, 5, 5, 5, 5, 5, 5, 5, 5, 5, 5, 5, 6, 6, 6, 6, 6, 6, 6, 6, 6, 6, 6, 6, 6, 6, 6, 6, 6, 6, 6, 6, 6, 6, 6, 6, 6, 6, 6, 6, 6, 6, 6, 6, 7, 7, 7, 7, 7, 7, 7, 7, 7, 7, 7, 7, 7, 7, 7, 7, 7, 7, 7, 7, 7, 7, 7, 7, 7, 7, 7, 7, 7, 7, 7, 7, 7, 7, 7, 7, 7, 7, 7, 7, 7, 7, 7, 7, 7, 7, 7, 7, 7, 7, 7, 7, 7, 7, 7, 7, 7, 7, 7, 7, 7, 7, 7, 7, 8, 8, 8, 8, 8, 8, 8, 8, 8, 8, 8, 8, 8, 8, 8, 8, 8, 8, 8, 8, 8, 8, 8, 8, 8, 8, 8, 8, 8, 8, 8, 8, 8, 8, 8, 8, 8, 8, 8, 8, 8, 8, 8, 8, 8, 8, 8, 8, 8, 8, 8, 8, 8, 8, 8, 8, 8, 8, 8, 8, 8, 8, 8, 8, 8, 8, 8, 8, 8, 8, 8, 8, 8, 8, 8, 8, 8, 8, 8, 8, 8, 8, 8, 8, 8, 8, 8, 8, 8, 8, 8, 8, 8, 8, 8, 8, 8, 8, 8, 8, 8, 8, 8, 8, 8, 8, 8, 8, 8, 8, 8, 8, 8, 8, 8, 8, 8, 8, 8, 8, 8, 8, 8, 8, 8, 8, 8, 8] : List UInt8) (Int.toNat (IntKind.wrap .u8 (x3 / 256))) 0) : Nat) : Int))) w5) (
      0 ≤ (IntKind.wrap .u8 x3) ∧ (IntKind.wrap .u8 x3) < ((List.length ([0, 1, 2, 2, 3, 3, 3, 3, 4, 4, 4, 4, 4, 4, 4, 4, 5, 5, 5, 5, 5, 5, 5, 5, 5, 5, 5, 5, 5, 5, 5, 5, 6, 6, 6, 6, 6, 6, 6, 6, 6, 6, 6, 6, 6, 6, 6, 6, 6, 6, 6, 6, 6, 6, 6, 6, 6, 6, 6, 6, 6, 6, 6, 6, 7, 7, 7, 7, 7, 7, 7, 7, 7, 7, 7, 7, 7, 7, 7, 7, 7, 7, 7, 7, 7, 7, 7, 7, 7, 7, 7, 7, 7, 7, 7, 7, 7, 7, 7, 7, 7, 7, 7, 7, 7, 7, 7, 7, 7, 7, 7, 7, 7, 7, 7, 7, 7, 7, 7, 7, 7, 7, 7, 7, 7, 7, 7, 7, 8, 8, 8, 8, 8, 8, 8, 8, 8, 8, 8, 8, 8, 8, 8, 8, 8, 8, 8, 8, 8, 8, 8, 8, 8, 8, 8, 8, 8, 8, 8, 8, 8, 8, 8, 8, 8, 8, 8, 8, 8, 8, 8, 8, 8, 8, 8, 8, 8, 8, 8, 8, 8, 8, 8, 8, 8, 8, 8, 8, 8, 8, 8, 8, 8, 8, 8, 8, 8, 8, 8, 8, 8, 8, 8, 8, 8, 8, 8, 8, 8, 8, 8, 8, 8, 8, 8, 8, 8, 8, 8, 8, 8, 8, 8, 8, 8, 8, 8, 8, 8, 8, 8, 8, 8, 8, 8, 8, 8, 8, 8, 8, 8, 8, 8, 8, 8, 8, 8, 8, 8, 8, 8, 8, 8, 8, 8, 8] : List UInt8) : Nat) : Int) ∧
      inR .i64 ((UInt8.toNat (List.getD ([0, 1, 2, 2, 3, 3, 3, 3, 4, 4, 4, 4, 4, 4, 4, 4, 5, 5, 5, 5, 5, 5, 5, 5, 5, 5, 5, 5, 5, 5, 5, 5, 6, 6, 6, 6, 6, 6, 6, 6, 6, 6, 6, 6, 6, 6, 6, 6, 6, 6, 6, 6, 6, 6, 6, 6, 6, 6, 6, 6, 6, 6, 6, 6, 7, 7, 7, 7, 7, 7, 7, 7, 7, 7, 7, 7, 7, 7, 7, 7, 7, 7, 7, 7, 7, 7, 7, 7, 7, 7, 7, 7, 7, 7, 7, 7, 7, 7, 7, 7, 7, 7, 7, 7, 7, 7, 7, 7, 7, 7, 7, 7, 7, 7, 7, 7, 7, 7, 7, 7, 7, 7, 7, 7, 7, 7, 7, 7, 8, 8, 8, 8, 8, 8, 8, 8, 8, 8, 8, 8, 8, 8, 8, 8, 8, 8, 8, 8, 8, 8, 8, 8, 8, 8, 8, 8, 8, 8, 8, 8, 8, 8, 8, 8, 8, 8, 8, 8, 8, 8, 8, 8, 8, 8, 8, 8, 8, 8, 8, 8, 8, 8, 8, 8, 8, 8, 8, 8, 8, 8, 8, 8, 8, 8, 8, 8, 8, 8, 8, 8, 8, 8, 8, 8, 8, 8, 8, 8, 8, 8, 8, 8, 8, 8, 8, 8, 8, 8, 8, 8, 8, 8, 8, 8, 8, 8, 8, 8, 8, 8, 8, 8, 8, 8, 8, 8, 8, 8, 8, 8, 8, 8, 8, 8, 8, 8, 8, 8, 8, 8, 8, 8, 8, 8, 8, 8] : List UInt8) (Int.toNat (IntKind.wrap .u8 x3)) 0) : Nat) : Int) ∧
      inR .i64 (n4 + ((UInt8.toNat (List.getD ([0, 1, 2, 2, 3, 3, 3, 3, 4, 4, 4, 4, 4, 4, 4, 4, 5, 5, 5, 5, 5, 5, 5, 5, 5, 5, 5, 5, 5, 5, 5, 5, 6, 6, 6, 6, 6, 6, 6, 6, 6, 6, 6, 6, 6, 6, 6, 6, 6, 6, 6, 6, 6, 6, 6, 6, 6, 6, 6, 6, 6, 6, 6, 6, 7, 7, 7, 7, 7, 7, 7, 7, 7, 7, 7, 7, 7, 7, 7, 7, 7, 7, 7, 7, 7, 7, 7, 7, 7, 7, 7, 7, 7, 7, 7, 7, 7, 7, 7, 7, 7, 7, 7, 7, 7, 7, 7, 7, 7, 7, 7, 7, 7, 7, 7, 7, 7, 7, 7, 7, 7, 7, 7, 7, 7, 7, 7, 7, 8, 8, 8, 8, 8, 8, 8, 8, 8, 8, 8, 8, 8, 8, 8, 8, 8, 8, 8, 8, 8, 8, 8, 8, 8, 8, 8, 8, 8, 8, 8, 8, 8, 8, 8, 8, 8, 8, 8, 8, 8, 8, 8, 8, 8, 8, 8, 8, 8, 8, 8, 8, 8, 8, 8, 8, 8, 8, 8, 8, 8, 8, 8, 8, 8, 8, 8, 8, 8, 8, 8, 8, 8, 8, 8, 8, 8, 8, 8, 8, 8, 8, 8, 8, 8, 8, 8, 8, 8, 8, 8, 8, 8, 8, 8, 8, 8, 8, 8, 8, 8, 8, 8, 8, 8, 8, 8, 8, 8, 8, 8, 8, 8, 8, 8, 8, 8, 8, 8, 8, 8, 8, 8, 8, 8, 8, 8, 8] : List UInt8) (Int.toNat (IntKind.wrap .u8 x3)) 0) : Nat) : Int)) ∧
      K (Value.int .i64 (n4 + ((UInt8.toNat (List.getD ([0, 1, 2, 2, 3, 3, 3, 3, 4, 4, 4, 4, 4, 4, 4, 4, 5, 5, 5, 5, 5, 5, 5, 5, 5, 5, 5, 5, 5, 5, 5, 5, 6, 6, 6, 6, 6, 6, 6, 6, 6, 6, 6, 6, 6, 6, 6, 6, 6, 6, 6, 6, 6, 6, 6, 6, 6, 6, 6, 6, 6, 6, 6, 6, 7, 7, 7, 7, 7, 7, 7, 7, 7, 7, 7, 7, 7, 7, 7, 7, 7, 7, 7, 7, 7, 7, 7, 7, 7, 7, 7, 7, 7, 7, 7, 7, 7, 7, 7, 7, 7, 7, 7, 7, 7, 7, 7, 7, 7, 7, 7, 7, 7, 7, 7, 7, 7, 7, 7, 7, 7, 7, 7, 7, 7, 7, 7, 7, 8, 8, 8, 8, 8, 8, 8, 8, 8, 8, 8, 8, 8, 8, 8, 8, 8, 8, 8, 8, 8, 8, 8, 8, 8, 8, 8, 8, 8, 8, 8, 8, 8, 8, 8, 8, 8, 8, 8, 8, 8, 8, 8, 8, 8, 8, 8, 8, 8, 8, 8, 8, 8, 8, 8, 8, 8, 8, 8, 8, 8, 8, 8, 8, 8, 8, 8, 8, 8, 8, 8, 8, 8, 8, 8, 8, 8, 8, 8, 8, 8, 8, 8, 8, 8, 8, 8, 8, 8, 8, 8, 8, 8, 8, 8, 8, 8, 8, 8, 8, 8, 8, 8, 8, 8, 8, 8, 8, 8, 8, 8, 8, 8, 8, 8, 8, 8, 8, 8, 8, 8, 8, 8, 8, 8, 8, 8, 8] : List UInt8) (Int.toNat (IntKind.wrap .u8 x3)) 0) : Nat) : Int))) w5))

theorem math_bits_Len32_eq (x1 : Int) (w : World) (K : Value → World → Prop) : math_bits_Len32 x1 w K = denF Tryd.prog callB Tryd.f56 (.two .none (.cut [(0, (Sh.int .u32)), (2, (Sh.int .i64))] [3, 4, 5, 6] .none .none)) [(Value.int .u32 x1)] w K := by kernel_rfl
theorem math_bits_Len32_ok (x1 : Int) {w : World} {R : Ending → World → Prop} (h : math_bits_Len32 x1 w fun v w' => R (.returned v) w') : Calls Tryd.prog fn_math_bits_Len32 ⟨[(Value.int .u32 x1)]⟩ w R :=
  calls_of_den callB_ok mixed Tryd.func56 (math_bits_Len32_eq x1 w _ ▸ h)

/-- slices.insertionSortOrdered[int] -/
def slices_insertionSortOrdered_int (data1 : Slc) (a2 : Int) (b3 : Int) (w : World) (K : Value → World → Prop) : Prop :=
  inR .i64 (a2 + (1 : Int)) ∧
  ∃ (I4 : (Int) → World → Prop) (mu5 : (Int) → World → Nat), I4 ((a2 + (1 : Int))) w ∧ (
  ∀ i6 : Int, ∀ w7 : World, I4 i6 w7 → ∀ u8 u9 u10 u11 u12 u13 u14 u15 u16 u17 u18 u19 u20 u21 u22 u23 u24 u25 u26 u27 u28 u29 u30 u31 u32 u33 u34 u35 u36 u37 u38 u39 u40 u41 u42 u43 u44 u45 u46 u47 : Value,
    BIf (decide (i6 < b3)) (
      ∃ (I48 : (Int) → World → Prop) (mu49 : (Int) → World → Nat), I48 (i6) w7 ∧ (
      ∀ j50 : Int, ∀ w51 : World, I48 j50 w51 → ∀ u52 u53 u54 u55 u56 u57 u58 u59 u60 u61 u62 u63 u64 u65 u66 u67 u68 u69 u70 u71 u72 u73 u74 u75 u76 u77 u78 u79 u80 u81 u82 u83 u84 : Value,
        ∃ J85 : World → Prop,
        (
          BIf (decide (a2 < j50)) (
            needSome data1.p fun a86 =>
            0 ≤ j50 ∧ j50 < ((data1.l : Nat) : Int) ∧
            ∃ n87 : Int, World.cell? (World.drew w51) (Addr.add a86 ((Int.toNat j50) * 1)) = some (Value.int .i64 n87) ∧
            inR .i64 (j50 - (1 : Int)) ∧
            needSome data1.p fun a88 =>
            0 ≤ (j50 - (1 : Int)) ∧ (j50 - (1 : Int)) < ((data1.l : Nat) : Int) ∧
            ∃ n89 : Int, World.cell? (World.drew w51) (Addr.add a88 ((Int.toNat (j50 - (1 : Int))) * 1)) = some (Value.int .i64 n89) ∧
            Calls Tryd.prog fn_cmp_Less_int ⟨[(Value.int .i64 n87), (Value.int .i64 n89)]⟩ (World.drew w51) fun e90 w91 =>
            ∃ b92 : Bool, e90 = .returned (Value.bool b92) ∧
            BIf b92 (
              J85 w91) (
              inR .i64 (i6 + (1 : Int)) ∧
              (I4 ((i6 + (1 : Int))) w91 ∧ mu5 ((i6 + (1 : Int))) w91 < mu5 i6 w7))) (
            inR .i64 (i6 + (1 : Int)) ∧
            (I4 ((i6 + (1 : Int))) (World.drew w51) ∧ mu5 ((i6 + (1 : Int))) (World.drew w51) < mu5 i6 w7))) ∧ (
        ∀ w93 : World, J85 w93 → ∀ u94 u95 u96 u97 u98 u99 u100 u101 u102 u103 u104 u105 u106 u107 u108 : Value,
          inR .i64 (j50 - (1 : Int)) ∧
          inR .i64 (j50 - (1 : Int)) ∧
          needSome data1.p fun a109 =>
          0 ≤ (j50 - (1 : Int)) ∧ (j50 - (1 : Int)) < ((data1.l : Nat) : Int) ∧
          ∃ n110 : Int, World.cell? (World.drew w93) (Addr.add a109 ((Int.toNat (j50 - (1 : Int))) * 1)) = some (Value.int .i64 n110) ∧
          needSome data1.p fun a111 =>
          0 ≤ j50 ∧ j50 < ((data1.l : Nat) : Int) ∧
          ∃ n112 : Int, World.cell? (World.drew w93) (Addr.add a111 ((Int.toNat j50) * 1)) = some (Value.int .i64 n112) ∧
          needSome data1.p fun a113 =>
          0 ≤ j50 ∧ j50 < ((data1.l : Nat) : Int) ∧
          canW (World.drew w93) (Addr.add a113 ((Int.toNat j50) * 1)) 1 ∧ ∀ w114 : World, w114 = World.setCell (World.drew w93) (Addr.add a113 ((Int.toNat j50) * 1)) (Value.int .i64 n110) →
          needSome data1.p fun a115 =>
          0 ≤ (j50 - (1 : Int)) ∧ (j50 - (1 : Int)) < ((data1.l : Nat) : Int) ∧
          canW w114 (Addr.add a115 ((Int.toNat (j50 - (1 : Int))) * 1)) 1 ∧ ∀ w116 : World, w116 = World.setCell w114 (Addr.add a115 ((Int.toNat (j50 - (1 : Int))) * 1)) (Value.int .i64 n112) →
          inR .i64 (j50 - (1 : Int)) ∧
          (I48 ((j50 - (1 : Int))) w116 ∧ mu49 ((j50 - (1 : Int))) w116 < mu49 j50 w51)))) (
      K (Value.tuple #[]) w7))

theorem slices_insertionSortOrdered_int_eq (data1 : Slc) (a2 : Int) (b3 : Int) (w : World) (K : Value → World → Prop) : slices_insertionSortOrdered_int data1 a2 b3 w K = denF Tryd.prog callB Tryd.f47 (.two .none (.one (.loop [(6, (Sh.int .i64))] [7, 10, 11, 12, 13, 14, 15, 16, 17, 18, 19, 20, 21, 22, 23, 24, 25, 26, 27, 28, 29, 30, 31, 32, 33, 34, 35, 36, 37, 38, 39, 40, 41, 42, 43, 44, 45, 46, 47, 48] (.two .none (.two (.one (.two .none (.one (.loop [(7, (Sh.int .i64))] [16, 17, 18, 19, 20, 21, 22, 23, 24, 25, 26, 27, 28, 29, 30, 31, 32, 33, 34, 35, 36, 37, 38, 39, 40, 41, 42, 43, 44, 45, 46, 47, 48] (.cut [] [16, 17, 18, 19, 20, 21, 22, 23, 24, 25, 26, 27, 28, 29, 30] .none .none))))) .none))))) [(Slc.v data1), (Value.int .i64 a2), (Value.int .i64 b3)] w K := by kernel_rfl
theorem slices_insertionSortOrdered_int_ok (data1 : Slc) (a2 : Int) (b3 : Int) {w : World} {R : Ending → World → Prop} (h : slices_insertionSortOrdered_int data1 a2 b3 w fun v w' => R (.returned v) w') : Calls Tryd.prog fn_slices_insertionSortOrdered_int ⟨[(Slc.v data1), (Value.int .i64 a2), (Value.int .i64 b3)]⟩ w R :=
  calls_of_den callB_ok mixed Tryd.func47 (slices_insertionSortOrdered_int_eq data1 a2 b3 w _ ▸ h)

/-- slices.pdqsortOrdered[int] -/
def slices_pdqsortOrdered_int (data1 : Slc) (a2 : Int) (b3 : Int) (limit4 : Int) (w : World) (K : Value → World → Prop) : Prop :=
  ∃ (I5 : (Int) → (Int) → (Int) → (Bool) → (Bool) → World → Prop) (mu6 : (Int) → (Int) → (Int) → (Bool) → (Bool) → World → Nat), I5 (a2) (b3) (limit4) (true) (true) w ∧ (
  ∀ a7 : Int, ∀ b8 : Int, ∀ limit9 : Int, ∀ wasBalanced10 : Bool, ∀ wasPartitioned11 : Bool, ∀ w12 : World, I5 a7 b8 limit9 wasBalanced10 wasPartitioned11 w12 → ∀ u13 u14 u15 u16 u17 u18 u19 u20 u21 u22 u23 u24 u25 u26 u27 u28 u29 u30 u31 u32 u33 u34 u35 u36 u37 u38 u39 u40 u41 u42 u43 u44 u45 u46 u47 u48 u49 u50 u51 u52 u53 u54 u55 u56 u57 u58 u59 u60 u61 u62 u63 u64 u65 u66 u67 u68 u69 u70 u71 u72 u73 u74 u75 u76 u77 u78 u79 u80 u81 u82 u83 u84 u85 u86 u87 u88 u89 u90 u91 u92 u93 u94 u95 u96 u97 u98 u99 u100 u101 u102 u103 u104 u105 u106 u107 u108 u109 u110 u111 u112 u113 u114 u115 u116 u117 u118 u119 u120 u121 u122 u123 u124 u125 u126 u127 u128 u129 u130 u131 u132 u133 u134 u135 u136 : Value,
    inR .i64 (b8 - a7) ∧
    BIf (decide ((b8 - a7) ≤ (12 : Int))) (
      Calls Tryd.prog fn_slices_insertionSortOrdered_int ⟨[(Slc.v data1), (Value.int .i64 a7), (Value.int .i64 b8)]⟩ w12 fun e137 w138 =>
      e137 = .returned (Value.tuple #[]) ∧
      K (Value.tuple #[]) w138) (
      BIf (decide (limit9 = (0 : Int))) (
        Calls Tryd.prog fn_slices_heapSortOrdered_int ⟨[(Slc.v data1), (Value.int .i64 a7), (Value.int .i64 b8)]⟩ w12 fun e139 w140 =>
        e139 = .returned (Value.tuple #[]) ∧
        K (Value.tuple #[]) w140) (
        ∃ J141 : (Int) → World → Prop,
        (
          BIf (!wasBalanced10) (
            Calls Tryd.prog fn_slices_breakPatternsOrdered_int ⟨[(Slc.v data1), (Value.int .i64 a7), (Value.int .i64 b8)]⟩ w12 fun e142 w143 =>
            e142 = .returned (Value.tuple #[]) ∧
            inR .i64 (limit9 - (1 : Int)) ∧
            J141 ((limit9 - (1 : Int))) w143) (
            J141 (limit9) w12)) ∧ (
        ∀ limit144 : Int, ∀ w145 : World, J141 limit144 w145 → ∀ u146 u147 u148 u149 u150 u151 u152 u153 : Value,
          Calls Tryd.prog fn_slices_choosePivotOrdered_int ⟨[(Slc.v data1), (Value.int .i64 a7), (Value.int .i64 b8)]⟩ w145 fun e154 w155 =>
          ∃ n156 : Int, ∃ n157 : Int, e154 = .returned (Value.tuple ⟨[(Value.int .i64 n156), (Value.int .i64 n157)]⟩) ∧
          ∃ J158 : (Int) → (Int) → World → Prop,
          (
            BIf (decide (n157 = (2 : Int))) (
              Calls Tryd.prog fn_slices_reverseRangeOrdered_int ⟨[(Slc.v data1), (Value.int .i64 a7), (Value.int .i64 b8)]⟩ w155 fun e159 w160 =>
              e159 = .returned (Value.tuple #[]) ∧
              inR .i64 (b8 - (1 : Int)) ∧
              inR .i64 (n156 - a7) ∧
              inR .i64 ((b8 - (1 : Int)) - (n156 - a7)) ∧
              J158 (((b8 - (1 : Int)) - (n156 - a7))) ((1 : Int)) w160) (
              J158 (n156) (n157) w155)) ∧ (
          ∀ pivot161 : Int, ∀ hint162 : Int, ∀ w163 : World, J158 pivot161 hint162 w163 → ∀ u164 u165 u166 u167 u168 u169 u170 u171 u172 u173 u174 u175 : Value,
            ∃ J176 : World → Prop,
            (
              BIf wasBalanced10 (
                BIf wasPartitioned11 (
                  BIf (decide (hint162 = (1 : Int))) (
                    Calls Tryd.prog fn_slices_partialInsertionSortOrdered_int ⟨[(Slc.v data1), (Value.int .i64 a7), (Value.int .i64 b8)]⟩ w163 fun e177 w178 =>
                    ∃ b179 : Bool, e177 = .returned (Value.bool b179) ∧
                    BIf b179 (
                      K (Value.tuple #[]) w178) (
                      J176 w178)) (
                    J176 w163)) (
                  J176 w163)) (
                J176 w163)) ∧ (
            ∀ w180 : World, J176 w180 → ∀ u181 u182 u183 u184 u185 u186 u187 u188 u189 u190 u191 u192 : Value,
              ∃ J193 : (Int) → World → Prop,
              (
                BIf (decide ((0 : Int) < a7)) (
                  inR .i64 (a7 - (1 : Int)) ∧
                  needSome data1.p fun a194 =>
                  0 ≤ (a7 - (1 : Int)) ∧ (a7 - (1 : Int)) < ((data1.l : Nat) : Int) ∧
                  ∃ n195 : Int, World.cell? (World.drew w180) (Addr.add a194 ((Int.toNat (a7 - (1 : Int))) * 1)) = some (Value.int .i64 n195) ∧
                  needSome data1.p fun a196 =>
                  0 ≤ pivot161 ∧ pivot161 < ((data1.l : Nat) : Int) ∧
                  ∃ n197 : Int, World.cell? (World.drew w180) (Addr.add a196 ((Int.toNat pivot161) * 1)) = some (Value.int .i64 n197) ∧
                  Calls Tryd.prog fn_cmp_Less_int ⟨[(Value.int .i64 n195), (Value.int .i64 n197)]⟩ (World.drew w180) fun e198 w199 =>
                  ∃ b200 : Bool, e198 = .returned (Value.bool b200) ∧
                  BIf (!b200) (
                    Calls Tryd.prog fn_slices_partitionEqualOrdered_int ⟨[(Slc.v data1), (Value.int .i64 a7), (Value.int .i64 b8), (Value.int .i64 pivot161)]⟩ w199 fun e201 w202 =>
                    ∃ n203 : Int, e201 = .returned (Value.int .i64 n203) ∧
                    (I5 (n203) (b8) (limit144) (wasBalanced10) (wasPartitioned11) w202 ∧ mu6 (n203) (b8) (limit144) (wasBalanced10) (wasPartitioned11) w202 < mu6 a7 b8 limit9 wasBalanced10 wasPartitioned11 w12)) (
                    J193 (a7) w199)) (
                  J193 (a7) (World.drew w180))) ∧ (
              ∀ a204 : Int, ∀ w205 : World, J193 a204 w205 → ∀ u206 u207 u208 u209 u210 u211 u212 u213 u214 u215 u216 u217 u218 u219 u220 u221 u222 u223 u224 u225 u226 u227 : Value,
                Calls Tryd.prog fn_slices_partitionOrdered_int ⟨[(Slc.v data1), (Value.int .i64 a204), (Value.int .i64 b8), (Value.int .i64 pivot161)]⟩ w205 fun e228 w229 =>
                ∃ n230 : Int, ∃ b231 : Bool, e228 = .returned (Value.tuple ⟨[(Value.int .i64 n230), (Value.bool b231)]⟩) ∧
                inR .i64 (n230 - a204) ∧
                inR .i64 (b8 - n230) ∧
                0 ≤ (b8 - a7) ∧ 0 < (8 : Int) ∧ inR .i64 (b8 - a7) ∧
                BIf (decide ((n230 - a204) < (b8 - n230))) (
                  Calls Tryd.prog fn_slices_pdqsortOrdered_int ⟨[(Slc.v data1), (Value.int .i64 a204), (Value.int .i64 n230), (Value.int .i64 limit144)]⟩ w229 fun e232 w233 =>
                  e232 = .returned (Value.tuple #[]) ∧
                  inR .i64 (n230 + (1 : Int)) ∧
                  (I5 ((n230 + (1 : Int))) (b8) (limit144) ((decide (((b8 - a7) / (8 : Int)) ≤ (n230 - a204)))) (b231) w233 ∧ mu6 ((n230 + (1 : Int))) (b8) (limit144) ((decide (((b8 - a7) / (8 : Int)) ≤ (n230 - a204)))) (b231) w233 < mu6 a7 b8 limit9 wasBalanced10 wasPartitioned11 w12)) (
                  inR .i64 (n230 + (1 : Int)) ∧
                  Calls Tryd.prog fn_slices_pdqsortOrdered_int ⟨[(Slc.v data1), (Value.int .i64 (n230 + (1 : Int))), (Value.int .i64 b8), (Value.int .i64 limit144)]⟩ w229 fun e234 w235 =>
                  e234 = .returned (Value.tuple #[]) ∧
                  (I5 (a204) (n230) (limit144) ((decide (((b8 - a7) / (8 : Int)) ≤ (b8 - n230)))) (b231) w235 ∧ mu6 (a204) (n230) (limit144) ((decide (((b8 - a7) / (8 : Int)) ≤ (b8 - n230)))) (b231) w235 < mu6 a7 b8 limit9 wasBalanced10 wasPartitioned11 w12)))))))))

theorem slices_pdqsortOrdered_int_eq (data1 : Slc) (a2 : Int) (b3 : Int) (limit4 : Int) (w : World) (K : Value → World → Prop) : slices_pdqsortOrdered_int data1 a2 b3 limit4 w K = denF Tryd.prog callB Tryd.f45 (.two .none (.two .none (.one (.loop [(1, (Sh.int .i64)), (2, (Sh.int .i64)), (3, (Sh.int .i64)), (8, Sh.bool), (9, Sh.bool)] [10, 11, 12, 13, 14, 15, 16, 17, 18, 19, 20, 21, 22, 23, 24, 25, 26, 27, 28, 29, 30, 31, 32, 33, 34, 35, 36, 37, 38, 39, 40, 41, 42, 43, 44, 45, 46, 47, 48, 49, 50, 51, 52, 53, 54, 55, 56, 57, 58, 59, 60, 61, 62, 63, 64, 65, 66, 67, 68, 69, 70, 71, 72, 73, 74, 75, 76, 77, 78, 79, 80, 81, 82, 83, 84, 85, 86, 87, 88, 89, 90, 91, 92, 93, 94, 95, 96, 97, 98, 99, 100, 101, 102, 103, 104, 105, 106, 107, 108, 109, 110, 111, 112, 113, 114, 115, 116, 117, 118, 119, 120, 121, 122, 123, 124, 125, 126, 127, 128, 129, 130, 131, 132, 133] (.one (.two .none (.two .none (.two .none (.cut [(3, (Sh.int .i64))] [34, 35, 36, 37, 38, 39, 40, 41] .none (.two .none (.cut [(11, (Sh.int .i64)), (12, (Sh.int .i64))] [49, 50, 51, 52, 53, 54, 55, 56, 57, 58, 59, 60] .none (.cut [] [61, 62, 63, 64, 65, 66, 67, 68, 69, 70, 71, 72] .none (.cut [(1, (Sh.int .i64))] [13, 73, 74, 75, 76, 77, 78, 79, 80, 81, 82, 83, 84, 85, 86, 87, 88, 89, 90, 91, 92, 93] .none .none))))))))))))) [(Slc.v data1), (Value.int .i64 a2), (Value.int .i64 b3), (Value.int .i64 limit4)] w K := by kernel_rfl
theorem slices_pdqsortOrdered_int_ok (data1 : Slc) (a2 : Int) (b3 : Int) (limit4 : Int) {w : World} {R : Ending → World → Prop} (h : slices_pdqsortOrdered_int data1 a2 b3 limit4 w fun v w' => R (.returned v) w') : Calls Tryd.prog fn_slices_pdqsortOrdered_int ⟨[(Slc.v data1), (Value.int .i64 a2), (Value.int .i64 b3), (Value.int .i64 limit4)]⟩ w R :=
  calls_of_den callB_ok mixed Tryd.func45 (slices_pdqsortOrdered_int_eq data1 a2 b3 limit4 w _ ▸ h)

/-- slices.Sort[[]int,int] -/
def slices_Sort_int (x1 : Slc) (w : World) (K : Value → World → Prop) : Prop :=
  Calls Tryd.prog fn_math_bits_Len ⟨[(Value.int .u64 (IntKind.wrap .u64 ((x1.l : Nat) : Int)))]⟩ w fun e2 w3 =>
  ∃ n4 : Int, e2 = .returned (Value.int .i64 n4) ∧
  Calls Tryd.prog fn_slices_pdqsortOrdered_int ⟨[(Slc.v x1), (Value.int .i64 (0 : Int)), (Value.int .i64 ((x1.l : Nat) : Int)), (Value.int .i64 n4)]⟩ w3 fun e5 w6 =>
  e5 = .returned (Value.tuple #[]) ∧
  K (Value.tuple #[]) w6

theorem slices_Sort_int_eq (x1 : Slc) (w : World) (K : Value → World → Prop) : slices_Sort_int x1 w K = denF Tryd.prog callB Tryd.f39 .none [(Slc.v x1)] w K := by kernel_rfl
theorem slices_Sort_int_ok (x1 : Slc) {w : World} {R : Ending → World → Prop} (h : slices_Sort_int x1 w fun v w' => R (.returned v) w') : Calls Tryd.prog fn_slices_Sort_int ⟨[(Slc.v x1)]⟩ w R :=
  calls_of_den callB_ok mixed Tryd.func39 (slices_Sort_int_eq x1 w _ ▸ h)

/-- tidewater/plan.chainRight$1 -/
def plan_chainRight_1 (u1 : Int) (w : World) (K : Value → World → Prop) : Prop :=
  BIf (decide (u1 < (0 : Int))) (
    K (Value.bool true) w) (
    K (Value.bool (decide ((12 : Int) ≤ u1))) w)

theorem plan_chainRight_1_eq (u1 : Int) (w : World) (K : Value → World → Prop) : plan_chainRight_1 u1 w K = denF Tryd.prog callB Tryd.f37 .none [(Value.int .i64 u1)] w K := by kernel_rfl
theorem plan_chainRight_1_ok (u1 : Int) {w : World} {R : Ending → World → Prop} (h : plan_chainRight_1 u1 w fun v w' => R (.returned v) w') : Calls Tryd.prog fn_plan_chainRight_1 ⟨[(Value.int .i64 u1)]⟩ w R :=
  calls_of_den callB_ok mixed Tryd.func37 (plan_chainRight_1_eq u1 w _ ▸ h)

/-- slices.IndexFunc[[]int,int] -/
def slices_IndexFunc_int_plan_chainRight_1 (s1 : Slc) (w : World) (K : Value → World → Prop) : Prop :=
  ∃ (I2 : (Int) → World → Prop) (mu3 : (Int) → World → Nat), I2 ((0 : Int)) w ∧ (
  ∀ i4 : Int, ∀ w5 : World, I2 i4 w5 → ∀ u6 u7 u8 u9 u10 u11 u12 u13 u14 u15 u16 u17 : Value,
    BIf (decide (i4 < ((s1.l : Nat) : Int))) (
      needSome s1.p fun a18 =>
      0 ≤ i4 ∧ i4 < ((s1.l : Nat) : Int) ∧
      ∃ n19 : Int, World.cell? w5 (Addr.add a18 ((Int.toNat i4) * 1)) = some (Value.int .i64 n19) ∧
      Calls Tryd.prog fn_plan_chainRight_1 ⟨[(Value.int .i64 n19)]⟩ w5 fun e20 w21 =>
      ∃ b22 : Bool, e20 = .returned (Value.bool b22) ∧
      BIf b22 (
        K (Value.int .i64 i4) w21) (
        inR .i64 (i4 + (1 : Int)) ∧
        (I2 ((i4 + (1 : Int))) w21 ∧ mu3 ((i4 + (1 : Int))) w21 < mu3 i4 w5))) (
      K (Value.int .i64 (-1 : Int)) w5))

theorem slices_IndexFunc_int_plan_chainRight_1_eq (s1 : Slc) (w : World) (K : Value → World → Prop) : slices_IndexFunc_int_plan_chainRight_1 s1 w K = denF Tryd.prog callB Tryd.f42 (.two .none (.two (.two .none (.one (.loop [(8, (Sh.int .i64))] [4, 5, 9, 10, 11, 12, 13, 14, 15, 16, 17, 18] .none))) .none)) [(Slc.v s1), (Value.func (.func 37) ⟨[]⟩ ⟨[]⟩)] w K := by kernel_rfl
theorem slices_IndexFunc_int_plan_chainRight_1_ok (s1 : Slc) {w : World} {R : Ending → World → Prop} (h : slices_IndexFunc_int_plan_chainRight_1 s1 w fun v w' => R (.returned v) w') : Calls Tryd.prog fn_slices_IndexFunc_int ⟨[(Slc.v s1), (Value.func (.func 37) ⟨[]⟩ ⟨[]⟩)]⟩ w R :=
  calls_of_den callB_ok mixed Tryd.func42 (slices_IndexFunc_int_plan_chainRight_1_eq s1 w _ ▸ h)

/-- slices.ContainsFunc[[]int,int] -/
def slices_ContainsFunc_int_plan_chainRight_1 (s1 : Slc) (w : World) (K : Value → World → Prop) : Prop :=
  Calls Tryd.prog fn_slices_IndexFunc_int ⟨[(Slc.v s1), (Value.func (.func 37) ⟨[]⟩ ⟨[]⟩)]⟩ w fun e2 w3 =>
  ∃ n4 : Int, e2 = .returned (Value.int .i64 n4) ∧
  K (Value.bool (decide ((0 : Int) ≤ n4))) w3

theorem slices_ContainsFunc_int_plan_chainRight_1_eq (s1 : Slc) (w : World) (K : Value → World → Prop) : slices_ContainsFunc_int_plan_chainRight_1 s1 w K = denF Tryd.prog callB Tryd.f36 .none [(Slc.v s1), (Value.func (.func 37) ⟨[]⟩ ⟨[]⟩)] w K := by kernel_rfl
theorem slices_ContainsFunc_int_plan_chainRight_1_ok (s1 : Slc) {w : World} {R : Ending → World → Prop} (h : slices_ContainsFunc_int_plan_chainRight_1 s1 w fun v w' => R (.returned v) w') : Calls Tryd.prog fn_slices_ContainsFunc_int ⟨[(Slc.v s1), (Value.func (.func 37) ⟨[]⟩ ⟨[]⟩)]⟩ w R :=
  calls_of_den callB_ok mixed Tryd.func36 (slices_ContainsFunc_int_plan_chainRight_1_eq s1 w _ ▸ h)

/-- tidewater/plan.chainRight -/
def plan_chainRight (c1 : Slc) (w : World) (K : Value → World → Prop) : Prop :=
  BIf (decide ((1 : Int) ≤ ((c1.l : Nat) : Int))) (
    BIf (decide (((c1.l : Nat) : Int) ≤ (3 : Int))) (
      Calls Tryd.prog fn_slices_ContainsFunc_int ⟨[(Slc.v c1), (Value.func (.func 37) ⟨[]⟩ ⟨[]⟩)]⟩ w fun e2 w3 =>
      ∃ b4 : Bool, e2 = .returned (Value.bool b4) ∧
      K (Value.bool (!b4)) w3) (
      K (Value.bool false) w)) (
    K (Value.bool false) w)

theorem plan_chainRight_eq (c1 : Slc) (w : World) (K : Value → World → Prop) : plan_chainRight c1 w K = denF Tryd.prog callB Tryd.f25 .none [(Slc.v c1)] w K := by kernel_rfl
theorem plan_chainRight_ok (c1 : Slc) {w : World} {R : Ending → World → Prop} (h : plan_chainRight c1 w fun v w' => R (.returned v) w') : Calls Tryd.prog fn_plan_chainRight ⟨[(Slc.v c1)]⟩ w R :=
  calls_of_den callB_ok mixed Tryd.func25 (plan_chainRight_eq c1 w _ ▸ h)

/-- tidewater/plan.Right$1 -/
def plan_Right_1 (c1 : Slc) (w : World) (K : Value → World → Prop) : Prop :=
  Calls Tryd.prog fn_plan_chainRight ⟨[(Slc.v c1)]⟩ w fun e2 w3 =>
  ∃ b4 : Bool, e2 = .returned (Value.bool b4) ∧
  K (Value.bool (!b4)) w3

theorem plan_Right_1_eq (c1 : Slc) (w : World) (K : Value → World → Prop) : plan_Right_1 c1 w K = denF Tryd.prog callB Tryd.f24 .none [(Slc.v c1)] w K := by kernel_rfl
theorem plan_Right_1_ok (c1 : Slc) {w : World} {R : Ending → World → Prop} (h : plan_Right_1 c1 w fun v w' => R (.returned v) w') : Calls Tryd.prog fn_plan_Right_1 ⟨[(Slc.v c1)]⟩ w R :=
  calls_of_den callB_ok mixed Tryd.func24 (plan_Right_1_eq c1 w _ ▸ h)

/-- slices.IndexFunc[[][]int,[]int] -/
def slices_IndexFunc_Sint_plan_Right_1 (s1 : Slc) (w : World) (K : Value → World → Prop) : Prop :=
  ∃ (I2 : (Int) → World → Prop) (mu3 : (Int) → World → Nat), I2 ((0 : Int)) w ∧ (
  ∀ i4 : Int, ∀ w5 : World, I2 i4 w5 → ∀ u6 u7 u8 u9 u10 u11 u12 u13 u14 u15 u16 u17 : Value,
    BIf (decide (i4 < ((s1.l : Nat) : Int))) (
      needSome s1.p fun a18 =>
      0 ≤ i4 ∧ i4 < ((s1.l : Nat) : Int) ∧
      ∃ s19 : Slc, World.cell? w5 (Addr.add a18 ((Int.toNat i4) * 1)) = some (Slc.v s19) ∧
      Calls Tryd.prog fn_plan_Right_1 ⟨[(Slc.v s19)]⟩ w5 fun e20 w21 =>
      ∃ b22 : Bool, e20 = .returned (Value.bool b22) ∧
      BIf b22 (
        K (Value.int .i64 i4) w21) (
        inR .i64 (i4 + (1 : Int)) ∧
        (I2 ((i4 + (1 : Int))) w21 ∧ mu3 ((i4 + (1 : Int))) w21 < mu3 i4 w5))) (
      K (Value.int .i64 (-1 : Int)) w5))

theorem slices_IndexFunc_Sint_plan_Right_1_eq (s1 : Slc) (w : World) (K : Value → World → Prop) : slices_IndexFunc_Sint_plan_Right_1 s1 w K = denF Tryd.prog callB Tryd.f35 (.two .none (.two (.two .none (.one (.loop [(8, (Sh.int .i64))] [4, 5, 9, 10, 11, 12, 13, 14, 15, 16, 17, 18] .none))) .none)) [(Slc.v s1), (Value.func (.func 24) ⟨[]⟩ ⟨[]⟩)] w K := by kernel_rfl
theorem slices_IndexFunc_Sint_plan_Right_1_ok (s1 : Slc) {w : World} {R : Ending → World → Prop} (h : slices_IndexFunc_Sint_plan_Right_1 s1 w fun v w' => R (.returned v) w') : Calls Tryd.prog fn_slices_IndexFunc_Sint ⟨[(Slc.v s1), (Value.func (.func 24) ⟨[]⟩ ⟨[]⟩)]⟩ w R :=
  calls_of_den callB_ok mixed Tryd.func35 (slices_IndexFunc_Sint_plan_Right_1_eq s1 w _ ▸ h)

/-- slices.ContainsFunc[[][]int,[]int] -/
def slices_ContainsFunc_Sint_plan_Right_1 (s1 : Slc) (w : World) (K : Value → World → Prop) : Prop :=
  Calls Tryd.prog fn_slices_IndexFunc_Sint ⟨[(Slc.v s1), (Value.func (.func 24) ⟨[]⟩ ⟨[]⟩)]⟩ w fun e2 w3 =>
  ∃ n4 : Int, e2 = .returned (Value.int .i64 n4) ∧
  K (Value.bool (decide ((0 : Int) ≤ n4))) w3

theorem slices_ContainsFunc_Sint_plan_Right_1_eq (s1 : Slc) (w : World) (K : Value → World → Prop) : slices_ContainsFunc_Sint_plan_Right_1 s1 w K = denF Tryd.prog callB Tryd.f23 .none [(Slc.v s1), (Value.func (.func 24) ⟨[]⟩ ⟨[]⟩)] w K := by kernel_rfl
theorem slices_ContainsFunc_Sint_plan_Right_1_ok (s1 : Slc) {w : World} {R : Ending → World → Prop} (h : slices_ContainsFunc_Sint_plan_Right_1 s1 w fun v w' => R (.returned v) w') : Calls Tryd.prog fn_slices_ContainsFunc_Sint ⟨[(Slc.v s1), (Value.func (.func 24) ⟨[]⟩ ⟨[]⟩)]⟩ w R :=
  calls_of_den callB_ok mixed Tryd.func23 (slices_ContainsFunc_Sint_plan_Right_1_eq s1 w _ ▸ h)

/-- slices.Grow[[]int,int] -/
def slices_Grow_int (s1 : Slc) (n2 : Int) (w : World) (K : Value → World → Prop) : Prop :=
  ∃ J3 : World → Prop,
  (
    BIf (decide (n2 < (0 : Int))) (
      False) (
      J3 w)) ∧ (
  ∀ w4 : World, J3 w4 → ∀ u5 u6 u7 : Value,
    inR .i64 (((s1.c : Nat) : Int) - ((s1.l : Nat) : Int)) ∧
    inR .i64 (n2 - (((s1.c : Nat) : Int) - ((s1.l : Nat) : Int))) ∧
    BIf (decide ((0 : Int) < (n2 - (((s1.c : Nat) : Int) - ((s1.l : Nat) : Int))))) (
      0 ≤ (0 : Int) ∧ (0 : Int) ≤ ((s1.c : Nat) : Int) ∧ ((s1.c : Nat) : Int) ≤ ((s1.c : Nat) : Int) ∧ ((s1.c : Nat) : Int) ≤ ((s1.c : Nat) : Int) ∧
      appendZS 1 3 [(Value.int .i64 (0 : Int))] w4 (Slc.sub s1 1 0 s1.c s1.c) (n2 - (((s1.c : Nat) : Int) - ((s1.l : Nat) : Int))) fun s9 w10 =>
      0 ≤ (0 : Int) ∧ (0 : Int) ≤ ((s1.l : Nat) : Int) ∧ ((s1.l : Nat) : Int) ≤ ((s9.c : Nat) : Int) ∧ ((s9.c : Nat) : Int) ≤ ((s9.c : Nat) : Int) ∧
      K (Slc.v (Slc.sub s9 1 0 s1.l s9.c)) w10) (
      K (Slc.v s1) w4))

theorem slices_Grow_int_eq (s1 : Slc) (n2 : Int) (w : World) (K : Value → World → Prop) : slices_Grow_int s1 n2 w K = denF Tryd.prog callB Tryd.f44 (.two .none (.cut [] [5, 6, 7] .none .none)) [(Slc.v s1), (Value.int .i64 n2)] w K := by kernel_rfl
theorem slices_Grow_int_ok (s1 : Slc) (n2 : Int) {w : World} {R : Ending → World → Prop} (h : slices_Grow_int s1 n2 w fun v w' => R (.returned v) w') : Calls Tryd.prog fn_slices_Grow_int ⟨[(Slc.v s1), (Value.int .i64 n2)]⟩ w R :=
  calls_of_den callB_ok mixed Tryd.func44 (slices_Grow_int_eq s1 n2 w _ ▸ h)

/-- slices.Concat[[]int,int] -/
def slices_Concat_int (slices1 : Slc) (w : World) (K : Value → World → Prop) : Prop :=
  ∃ (I2 : (Int) → (Int) → World → Prop) (mu3 : (Int) → (Int) → World → Nat), I2 ((0 : Int)) ((0 : Int)) w ∧ (
  ∀ size4 : Int, ∀ i5 : Int, ∀ w6 : World, I2 size4 i5 w6 → ∀ u7 u8 u9 u10 u11 u12 u13 u14 u15 u16 u17 u18 : Value,
    BIf (decide (i5 < ((slices1.l : Nat) : Int))) (
      needSome slices1.p fun a19 =>
      0 ≤ i5 ∧ i5 < ((slices1.l : Nat) : Int) ∧
      ∃ s20 : Slc, World.cell? w6 (Addr.add a19 ((Int.toNat i5) * 1)) = some (Slc.v s20) ∧
      inR .i64 (size4 + ((s20.l : Nat) : Int)) ∧
      BIf (decide ((size4 + ((s20.l : Nat) : Int)) < (0 : Int))) (
        False) (
        inR .i64 (i5 + (1 : Int)) ∧
        (I2 ((size4 + ((s20.l : Nat) : Int))) ((i5 + (1 : Int))) w6 ∧ mu3 ((size4 + ((s20.l : Nat) : Int))) ((i5 + (1 : Int))) w6 < mu3 size4 i5 w6))) (
      Calls Tryd.prog fn_slices_Grow_int ⟨[(Slc.v (⟨none, 0, 0⟩ : Slc)), (Value.int .i64 size4)]⟩ w6 fun e21 w22 =>
      ∃ s23 : Slc, e21 = .returned (Slc.v s23) ∧
      ∃ (I24 : (Slc) → (Int) → World → Prop) (mu25 : (Slc) → (Int) → World → Nat), I24 (s23) ((0 : Int)) w22 ∧ (
      ∀ newslice26 : Slc, ∀ i27 : Int, ∀ w28 : World, I24 newslice26 i27 w28 → ∀ u29 u30 u31 u32 u33 u34 u35 u36 : Value,
        BIf (decide (i27 < ((slices1.l : Nat) : Int))) (
          needSome slices1.p fun a37 =>
          0 ≤ i27 ∧ i27 < ((slices1.l : Nat) : Int) ∧
          ∃ s38 : Slc, World.cell? w28 (Addr.add a37 ((Int.toNat i27) * 1)) = some (Slc.v s38) ∧
          appendS 1 3 [(Value.int .i64 (0 : Int))] w28 newslice26 (.slc s38) fun s39 w40 =>
          inR .i64 (i27 + (1 : Int)) ∧
          (I24 (s39) ((i27 + (1 : Int))) w40 ∧ mu25 (s39) ((i27 + (1 : Int))) w40 < mu25 newslice26 i27 w28)) (
          K (Slc.v newslice26) w28))))

theorem slices_Concat_int_eq (slices1 : Slc) (w : World) (K : Value → World → Prop) : slices_Concat_int slices1 w K = denF Tryd.prog callB Tryd.f38 (.two .none (.two .none (.two (.two .none (.one (.loop [(3, (Sh.int .i64)), (11, (Sh.int .i64))] [5, 12, 13, 14, 15, 16, 17, 18, 19, 20, 21, 22] .none))) (.two .none (.two (.two .none (.one (.loop [(6, Sh.slc), (27, (Sh.int .i64))] [8, 28, 29, 30, 31, 32, 33, 34] .none))) .none))))) [(Slc.v slices1)] w K := by kernel_rfl
theorem slices_Concat_int_ok (slices1 : Slc) {w : World} {R : Ending → World → Prop} (h : slices_Concat_int slices1 w fun v w' => R (.returned v) w') : Calls Tryd.prog fn_slices_Concat_int ⟨[(Slc.v slices1)]⟩ w R :=
  calls_of_den callB_ok mixed Tryd.func38 (slices_Concat_int_eq slices1 w _ ▸ h)

/-- tidewater/plan.all -/
def plan_all (p1 : Int) (p2 : Slc) (w : World) (K : Value → World → Prop) : Prop :=
  newS w (.cells ⟨[(Value.int .i64 p1), (Slc.v p2)]⟩ 24) fun r3 w4 =>
  ∃ s5 : Slc, World.cell? w4 (⟨r3, 1, none⟩ : Addr) = some (Slc.v s5) ∧
  Calls Tryd.prog fn_slices_Concat_int ⟨[(Slc.v s5)]⟩ w4 fun e6 w7 =>
  ∃ s8 : Slc, e6 = .returned (Slc.v s8) ∧
  Calls Tryd.prog fn_slices_Sort_int ⟨[(Slc.v s8)]⟩ w7 fun e9 w10 =>
  e9 = .returned (Value.tuple #[]) ∧
  K (Slc.v s8) w10

theorem plan_all_eq (p1 : Int) (p2 : Slc) (w : World) (K : Value → World → Prop) : plan_all p1 p2 w K = denF Tryd.prog callB Tryd.f26 .none [(Value.agg ⟨[(Value.int .i64 p1), (Slc.v p2)]⟩)] w K := by kernel_rfl
theorem plan_all_ok (p1 : Int) (p2 : Slc) {w : World} {R : Ending → World → Prop} (h : plan_all p1 p2 w fun v w' => R (.returned v) w') : Calls Tryd.prog fn_plan_all ⟨[(Value.agg ⟨[(Value.int .i64 p1), (Slc.v p2)]⟩)]⟩ w R :=
  calls_of_den callB_ok mixed Tryd.func26 (plan_all_eq p1 p2 w _ ▸ h)

/-- slices.Clone[[]int,int] -/
def slices_Clone_int (s1 : Slc) (w : World) (K : Value → World → Prop) : Prop :=
  BIf (Option.isNone (s1.p : Option Addr)) (
    K (Slc.v (⟨none, 0, 0⟩ : Slc)) w) (
    newS w (.cells ⟨[]⟩ 3) fun r2 w3 =>
    appendS 1 3 [(Value.int .i64 (0 : Int))] w3 (⟨(some (⟨r2, 0, none⟩ : Addr)), 0, 0⟩ : Slc) (.slc s1) fun s4 w5 =>
    K (Slc.v s4) w5)

theorem slices_Clone_int_eq (s1 : Slc) (w : World) (K : Value → World → Prop) : slices_Clone_int s1 w K = denF Tryd.prog callB Tryd.f28 .none [(Slc.v s1)] w K := by kernel_rfl
theorem slices_Clone_int_ok (s1 : Slc) {w : World} {R : Ending → World → Prop} (h : slices_Clone_int s1 w fun v w' => R (.returned v) w') : Calls Tryd.prog fn_slices_Clone_int ⟨[(Slc.v s1)]⟩ w R :=
  calls_of_den callB_ok mixed Tryd.func28 (slices_Clone_int_eq s1 w _ ▸ h)

/-- slices.Compact[[]int,int] -/
def slices_Compact_int (s1 : Slc) (w : World) (K : Value → World → Prop) : Prop :=
  BIf (decide (((s1.l : Nat) : Int) < (2 : Int))) (
    K (Slc.v s1) w) (
    ∃ (I2 : (Int) → World → Prop) (mu3 : (Int) → World → Nat), I2 ((1 : Int)) w ∧ (
    ∀ k4 : Int, ∀ w5 : World, I2 k4 w5 → ∀ u6 u7 u8 u9 u10 u11 u12 u13 u14 u15 u16 u17 u18 u19 u20 u21 u22 u23 u24 u25 u26 u27 u28 u29 u30 u31 u32 u33 u34 u35 u36 u37 u38 u39 u40 u41 u42 u43 u44 u45 u46 u47 u48 u49 u50 u51 u52 u53 u54 u55 u56 u57 u58 : Value,
      BIf (decide (k4 < ((s1.l : Nat) : Int))) (
        needSome s1.p fun a59 =>
        0 ≤ k4 ∧ k4 < ((s1.l : Nat) : Int) ∧
        ∃ n60 : Int, World.cell? (World.drew w5) (Addr.add a59 ((Int.toNat k4) * 1)) = some (Value.int .i64 n60) ∧
        inR .i64 (k4 - (1 : Int)) ∧
        needSome s1.p fun a61 =>
        0 ≤ (k4 - (1 : Int)) ∧ (k4 - (1 : Int)) < ((s1.l : Nat) : Int) ∧
        ∃ n62 : Int, World.cell? (World.drew w5) (Addr.add a61 ((Int.toNat (k4 - (1 : Int))) * 1)) = some (Value.int .i64 n62) ∧
        BIf (decide (n60 = n62)) (
          0 ≤ k4 ∧ k4 ≤ ((s1.l : Nat) : Int) ∧ ((s1.l : Nat) : Int) ≤ ((s1.c : Nat) : Int) ∧ ((s1.c : Nat) : Int) ≤ ((s1.c : Nat) : Int) ∧
          ∃ (I64 : (Int) → (Int) → World → Prop) (mu65 : (Int) → (Int) → World → Nat), I64 (k4) ((1 : Int)) (World.drew w5) ∧ (
          ∀ k66 : Int, ∀ i67 : Int, ∀ w68 : World, I64 k66 i67 w68 → ∀ u69 u70 u71 u72 u73 u74 u75 u76 u77 u78 u79 u80 u81 u82 u83 u84 u85 u86 u87 u88 u89 u90 u91 u92 u93 : Value,
            BIf (decide (i67 < (((Slc.sub s1 1 (Int.toNat k4) s1.l s1.c).l : Nat) : Int))) (
              needSome (Slc.sub s1 1 (Int.toNat k4) s1.l s1.c).p fun a94 =>
              0 ≤ i67 ∧ i67 < (((Slc.sub s1 1 (Int.toNat k4) s1.l s1.c).l : Nat) : Int) ∧
              ∃ n95 : Int, World.cell? (World.drew w68) (Addr.add a94 ((Int.toNat i67) * 1)) = some (Value.int .i64 n95) ∧
              inR .i64 (i67 - (1 : Int)) ∧
              needSome (Slc.sub s1 1 (Int.toNat k4) s1.l s1.c).p fun a96 =>
              0 ≤ (i67 - (1 : Int)) ∧ (i67 - (1 : Int)) < (((Slc.sub s1 1 (Int.toNat k4) s1.l s1.c).l : Nat) : Int) ∧
              ∃ n97 : Int, World.cell? (World.drew w68) (Addr.add a96 ((Int.toNat (i67 - (1 : Int))) * 1)) = some (Value.int .i64 n97) ∧
              BIf (!decide (n95 = n97)) (
                needSome (Slc.sub s1 1 (Int.toNat k4) s1.l s1.c).p fun a98 =>
                0 ≤ i67 ∧ i67 < (((Slc.sub s1 1 (Int.toNat k4) s1.l s1.c).l : Nat) : Int) ∧
                ∃ n99 : Int, World.cell? (World.drew w68) (Addr.add a98 ((Int.toNat i67) * 1)) = some (Value.int .i64 n99) ∧
                needSome s1.p fun a100 =>
                0 ≤ k66 ∧ k66 < ((s1.l : Nat) : Int) ∧
                canW (World.drew w68) (Addr.add a100 ((Int.toNat k66) * 1)) 1 ∧ ∀ w101 : World, w101 = World.setCell (World.drew w68) (Addr.add a100 ((Int.toNat k66) * 1)) (Value.int .i64 n99) →
                inR .i64 (k66 + (1 : Int)) ∧
                inR .i64 (i67 + (1 : Int)) ∧
                (I64 ((k66 + (1 : Int))) ((i67 + (1 : Int))) w101 ∧ mu65 ((k66 + (1 : Int))) ((i67 + (1 : Int))) w101 < mu65 k66 i67 w68)) (
                inR .i64 (i67 + (1 : Int)) ∧
                (I64 (k66) ((i67 + (1 : Int))) (World.drew w68) ∧ mu65 (k66) ((i67 + (1 : Int))) (World.drew w68) < mu65 k66 i67 w68))) (
              0 ≤ k66 ∧ k66 ≤ ((s1.l : Nat) : Int) ∧ ((s1.l : Nat) : Int) ≤ ((s1.c : Nat) : Int) ∧ ((s1.c : Nat) : Int) ≤ ((s1.c : Nat) : Int) ∧
              clearS [(Value.int .i64 (0 : Int))] w68 (Slc.sub s1 1 (Int.toNat k66) s1.l s1.c) fun w103 =>
              0 ≤ (0 : Int) ∧ (0 : Int) ≤ k66 ∧ k66 ≤ ((s1.c : Nat) : Int) ∧ ((s1.c : Nat) : Int) ≤ ((s1.c : Nat) : Int) ∧
              K (Slc.v (Slc.sub s1 1 0 (Int.toNat k66) s1.c)) w103))) (
          inR .i64 (k4 + (1 : Int)) ∧
          (I2 ((k4 + (1 : Int))) (World.drew w5) ∧ mu3 ((k4 + (1 : Int))) (World.drew w5) < mu3 k4 w5))) (
        K (Slc.v s1) w5)))

theorem slices_Compact_int_eq (s1 : Slc) (w : World) (K : Value → World → Prop) : slices_Compact_int s1 w K = denF Tryd.prog callB Tryd.f27 (.two .none (.two .none (.two (.two .none (.one (.loop [(3, (Sh.int .i64))] [2, 4, 5, 10, 11, 12, 13, 14, 15, 16, 17, 18, 19, 20, 21, 22, 23, 24, 25, 26, 27, 28, 29, 30, 31, 32, 33, 34, 35, 36, 37, 38, 39, 40, 41, 42, 43, 44, 45, 46, 47, 48, 49, 50, 51, 52, 53, 54, 55, 56, 57, 58, 59] (.two .none (.two (.one (.two .none (.two (.two .none (.two (.two .none (.one (.loop [(3, (Sh.int .i64)), (5, (Sh.int .i64))] [29, 30, 31, 32, 33, 34, 35, 36, 37, 38, 39, 40, 41, 42, 43, 44, 45, 46, 47, 48, 49, 50, 51, 52, 53] .none))) .none)) .none))) .none))))) .none))) [(Slc.v s1)] w K := by kernel_rfl
theorem slices_Compact_int_ok (s1 : Slc) {w : World} {R : Ending → World → Prop} (h : slices_Compact_int s1 w fun v w' => R (.returned v) w') : Calls Tryd.prog fn_slices_Compact_int ⟨[(Slc.v s1)]⟩ w R :=
  calls_of_den callB_ok mixed Tryd.func27 (slices_Compact_int_eq s1 w _ ▸ h)

/-- tidewater/plan.Right -/
def plan_Right (p1 : Int) (p2 : Slc) (w : World) (K : Value → World → Prop) : Prop :=
  newS w (.cells ⟨[(Value.int .i64 p1), (Slc.v p2)]⟩ 24) fun r3 w4 =>
  ∃ J5 : World → Prop,
  (
    ∃ n6 : Int, World.cell? w4 (⟨r3, 0, none⟩ : Addr) = some (Value.int .i64 n6) ∧
    BIf (decide (n6 < (0 : Int))) (
      K (Value.bool false) w4) (
      ∃ n7 : Int, World.cell? w4 (⟨r3, 0, none⟩ : Addr) = some (Value.int .i64 n7) ∧
      BIf (decide ((1073741824 : Int) < n7)) (
        K (Value.bool false) w4) (
        ∃ s8 : Slc, World.cell? w4 (⟨r3, 1, none⟩ : Addr) = some (Slc.v s8) ∧
        BIf (decide (((s8.l : Nat) : Int) < (1 : Int))) (
          K (Value.bool false) w4) (
          ∃ s9 : Slc, World.cell? w4 (⟨r3, 1, none⟩ : Addr) = some (Slc.v s9) ∧
          BIf (decide ((3 : Int) < ((s9.l : Nat) : Int))) (
            K (Value.bool false) w4) (
            J5 w4))))) ∧ (
  ∀ w10 : World, J5 w10 → ∀ u11 u12 u13 u14 u15 u16 u17 u18 u19 u20 u21 u22 u23 u24 u25 u26 u27 u28 u29 u30 u31 : Value,
    ∃ s32 : Slc, World.cell? w10 (⟨r3, 1, none⟩ : Addr) = some (Slc.v s32) ∧
    Calls Tryd.prog fn_slices_ContainsFunc_Sint ⟨[(Slc.v s32), (Value.func (.func 24) ⟨[]⟩ ⟨[]⟩)]⟩ w10 fun e33 w34 =>
    ∃ b35 : Bool, e33 = .returned (Value.bool b35) ∧
    BIf b35 (
      K (Value.bool false) w34) (
      ∃ n36 : Int, ∃ s37 : Slc, rowAt w34 (⟨r3, 0, none⟩ : Addr) 0 [(Value.int .i64 n36), (Slc.v s37)] ∧
      Calls Tryd.prog fn_plan_all ⟨[(Value.agg ⟨[(Value.int .i64 n36), (Slc.v s37)]⟩)]⟩ w34 fun e38 w39 =>
      ∃ s40 : Slc, e38 = .returned (Slc.v s40) ∧
      Calls Tryd.prog fn_slices_Clone_int ⟨[(Slc.v s40)]⟩ w39 fun e41 w42 =>
      ∃ s43 : Slc, e41 = .returned (Slc.v s43) ∧
      Calls Tryd.prog fn_slices_Compact_int ⟨[(Slc.v s43)]⟩ w42 fun e44 w45 =>
      ∃ s46 : Slc, e44 = .returned (Slc.v s46) ∧
      K (Value.bool (decide (((s46.l : Nat) : Int) = ((s40.l : Nat) : Int)))) w45))

theorem plan_Right_eq (p1 : Int) (p2 : Slc) (w : World) (K : Value → World → Prop) : plan_Right p1 p2 w K = denF Tryd.prog callB Tryd.f8 (.two .none (.cut [] [2, 4, 5, 6, 7, 8, 9, 10, 11, 12, 13, 14, 15, 16, 17, 18, 19, 20, 21, 22, 23] .none .none)) [(Value.agg ⟨[(Value.int .i64 p1), (Slc.v p2)]⟩)] w K := by kernel_rfl
theorem plan_Right_ok (p1 : Int) (p2 : Slc) {w : World} {R : Ending → World → Prop} (h : plan_Right p1 p2 w fun v w' => R (.returned v) w') : Calls Tryd.prog fn_plan_Right ⟨[(Value.agg ⟨[(Value.int .i64 p1), (Slc.v p2)]⟩)]⟩ w R :=
  calls_of_den callB_ok mixed Tryd.func8 (plan_Right_eq p1 p2 w _ ▸ h)

/-- tidewater/plan.Units -/
def plan_Units (p1 : Int) (p2 : Slc) (w : World) (K : Value → World → Prop) : Prop :=
  newS w (.cells ⟨[(Value.int .i64 p1), (Slc.v p2)]⟩ 24) fun r3 w4 =>
  ∃ n5 : Int, ∃ s6 : Slc, rowAt w4 (⟨r3, 0, none⟩ : Addr) 0 [(Value.int .i64 n5), (Slc.v s6)] ∧
  Calls Tryd.prog fn_plan_Right ⟨[(Value.agg ⟨[(Value.int .i64 n5), (Slc.v s6)]⟩)]⟩ w4 fun e7 w8 =>
  ∃ b9 : Bool, e7 = .returned (Value.bool b9) ∧
  BIf (!b9) (
    K (Slc.v (⟨none, 0, 0⟩ : Slc)) w8) (
    ∃ n10 : Int, ∃ s11 : Slc, rowAt w8 (⟨r3, 0, none⟩ : Addr) 0 [(Value.int .i64 n10), (Slc.v s11)] ∧
    Calls Tryd.prog fn_plan_all ⟨[(Value.agg ⟨[(Value.int .i64 n10), (Slc.v s11)]⟩)]⟩ w8 fun e12 w13 =>
    ∃ s14 : Slc, e12 = .returned (Slc.v s14) ∧
    K (Slc.v s14) w13)

theorem plan_Units_eq (p1 : Int) (p2 : Slc) (w : World) (K : Value → World → Prop) : plan_Units p1 p2 w K = denF Tryd.prog callB Tryd.f15 .none [(Value.agg ⟨[(Value.int .i64 p1), (Slc.v p2)]⟩)] w K := by kernel_rfl
theorem plan_Units_ok (p1 : Int) (p2 : Slc) {w : World} {R : Ending → World → Prop} (h : plan_Units p1 p2 w fun v w' => R (.returned v) w') : Calls Tryd.prog fn_plan_Units ⟨[(Value.agg ⟨[(Value.int .i64 p1), (Slc.v p2)]⟩)]⟩ w R :=
  calls_of_den callB_ok mixed Tryd.func15 (plan_Units_eq p1 p2 w _ ▸ h)

/-- tidewater/plan.Place -/
def plan_Place (p1 : Int) (p2 : Slc) (a3 : Int) (w : World) (K : Value → World → Prop) : Prop :=
  newS w (.cells ⟨[(Value.int .i64 p1), (Slc.v p2)]⟩ 24) fun r4 w5 =>
  ∃ n6 : Int, ∃ s7 : Slc, rowAt w5 (⟨r4, 0, none⟩ : Addr) 0 [(Value.int .i64 n6), (Slc.v s7)] ∧
  Calls Tryd.prog fn_plan_Right ⟨[(Value.agg ⟨[(Value.int .i64 n6), (Slc.v s7)]⟩)]⟩ w5 fun e8 w9 =>
  ∃ b10 : Bool, e8 = .returned (Value.bool b10) ∧
  BIf (!b10) (
    ∃ v11 : Value, World.cell? (World.drew w9) (⟨gl_ErrForm, 0, none⟩ : Addr) = some v11 ∧
    K (Value.tuple ⟨[(Value.int .i64 (0 : Int)), (Value.int .i64 (0 : Int)), v11]⟩) (World.drew w9)) (
    BIf (decide (a3 < (0 : Int))) (
      ∃ v12 : Value, World.cell? (World.drew w9) (⟨gl_ErrRange, 0, none⟩ : Addr) = some v12 ∧
      K (Value.tuple ⟨[(Value.int .i64 (0 : Int)), (Value.int .i64 (0 : Int)), v12]⟩) (World.drew w9)) (
      BIf (decide ((4096 : Int) ≤ a3)) (
        ∃ v13 : Value, World.cell? (World.drew w9) (⟨gl_ErrRange, 0, none⟩ : Addr) = some v13 ∧
        K (Value.tuple ⟨[(Value.int .i64 (0 : Int)), (Value.int .i64 (0 : Int)), v13]⟩) (World.drew w9)) (
        ∃ s14 : Slc, World.cell? w9 (⟨r4, 1, none⟩ : Addr) = some (Slc.v s14) ∧
        0 ≤ a3 ∧ 0 < ((s14.l : Nat) : Int) ∧
        0 ≤ a3 ∧ 0 < ((s14.l : Nat) : Int) ∧ inR .i64 a3 ∧
        K (Value.tuple ⟨[(Value.int .i64 (a3 % ((s14.l : Nat) : Int))), (Value.int .i64 (a3 / ((s14.l : Nat) : Int))), Value.nilIface]⟩) (World.drew w9))))

theorem plan_Place_eq (p1 : Int) (p2 : Slc) (a3 : Int) (w : World) (K : Value → World → Prop) : plan_Place p1 p2 a3 w K = denF Tryd.prog callB Tryd.f12 .none [(Value.agg ⟨[(Value.int .i64 p1), (Slc.v p2)]⟩), (Value.int .i64 a3)] w K := by kernel_rfl
theorem plan_Place_ok (p1 : Int) (p2 : Slc) (a3 : Int) {w : World} {R : Ending → World → Prop} (h : plan_Place p1 p2 a3 w fun v w' => R (.returned v) w') : Calls Tryd.prog fn_plan_Place ⟨[(Value.agg ⟨[(Value.int .i64 p1), (Slc.v p2)]⟩), (Value.int .i64 a3)]⟩ w R :=
  calls_of_den callB_ok mixed Tryd.func12 (plan_Place_eq p1 p2 a3 w _ ▸ h)

/-- tidewater/plan.Address -/
def plan_Address (p1 : Int) (p2 : Slc) (chain3 : Int) (at4 : Int) (w : World) (K : Value → World → Prop) : Prop :=
  newS w (.cells ⟨[(Value.int .i64 p1), (Slc.v p2)]⟩ 24) fun r5 w6 =>
  ∃ n7 : Int, ∃ s8 : Slc, rowAt w6 (⟨r5, 0, none⟩ : Addr) 0 [(Value.int .i64 n7), (Slc.v s8)] ∧
  Calls Tryd.prog fn_plan_Right ⟨[(Value.agg ⟨[(Value.int .i64 n7), (Slc.v s8)]⟩)]⟩ w6 fun e9 w10 =>
  ∃ b11 : Bool, e9 = .returned (Value.bool b11) ∧
  BIf (!b11) (
    K (Value.int .i64 (-1 : Int)) w10) (
    BIf (decide (chain3 < (0 : Int))) (
      K (Value.int .i64 (-1 : Int)) w10) (
      ∃ s12 : Slc, World.cell? w10 (⟨r5, 1, none⟩ : Addr) = some (Slc.v s12) ∧
      BIf (decide (((s12.l : Nat) : Int) ≤ chain3)) (
        K (Value.int .i64 (-1 : Int)) w10) (
        BIf (decide (at4 < (0 : Int))) (
          K (Value.int .i64 (-1 : Int)) w10) (
          BIf (decide ((4096 : Int) < at4)) (
            K (Value.int .i64 (-1 : Int)) w10) (
            ∃ s13 : Slc, World.cell? w10 (⟨r5, 1, none⟩ : Addr) = some (Slc.v s13) ∧
            inR .i64 (at4 * ((s13.l : Nat) : Int)) ∧
            inR .i64 ((at4 * ((s13.l : Nat) : Int)) + chain3) ∧
            K (Value.int .i64 ((at4 * ((s13.l : Nat) : Int)) + chain3)) w10)))))

theorem plan_Address_eq (p1 : Int) (p2 : Slc) (chain3 : Int) (at4 : Int) (w : World) (K : Value → World → Prop) : plan_Address p1 p2 chain3 at4 w K = denF Tryd.prog callB Tryd.f14 .none [(Value.agg ⟨[(Value.int .i64 p1), (Slc.v p2)]⟩), (Value.int .i64 chain3), (Value.int .i64 at4)] w K := by kernel_rfl
theorem plan_Address_ok (p1 : Int) (p2 : Slc) (chain3 : Int) (at4 : Int) {w : World} {R : Ending → World → Prop} (h : plan_Address p1 p2 chain3 at4 w fun v w' => R (.returned v) w') : Calls Tryd.prog fn_plan_Address ⟨[(Value.agg ⟨[(Value.int .i64 p1), (Slc.v p2)]⟩), (Value.int .i64 chain3), (Value.int .i64 at4)]⟩ w R :=
  calls_of_den callB_ok mixed Tryd.func14 (plan_Address_eq p1 p2 chain3 at4 w _ ▸ h)

/-- tidewater/plan.Tail -/
def plan_Tail (p1 : Int) (p2 : Slc) (tails3 : Slc) (w : World) (K : Value → World → Prop) : Prop :=
  newS w (.cells ⟨[(Value.int .i64 p1), (Slc.v p2)]⟩ 24) fun r4 w5 =>
  ∃ n6 : Int, ∃ s7 : Slc, rowAt w5 (⟨r4, 0, none⟩ : Addr) 0 [(Value.int .i64 n6), (Slc.v s7)] ∧
  Calls Tryd.prog fn_plan_Right ⟨[(Value.agg ⟨[(Value.int .i64 n6), (Slc.v s7)]⟩)]⟩ w5 fun e8 w9 =>
  ∃ b10 : Bool, e8 = .returned (Value.bool b10) ∧
  BIf (!b10) (
    K (Value.int .i64 (0 : Int)) w9) (
    ∃ s11 : Slc, World.cell? w9 (⟨r4, 1, none⟩ : Addr) = some (Slc.v s11) ∧
    0 ≤ (0 : Int) ∧ (0 : Int) ≤ (if ((s11.l : Nat) : Int) < ((tails3.l : Nat) : Int) then ((s11.l : Nat) : Int) else ((tails3.l : Nat) : Int)) ∧ (if ((s11.l : Nat) : Int) < ((tails3.l : Nat) : Int) then ((s11.l : Nat) : Int) else ((tails3.l : Nat) : Int)) ≤ ((tails3.c : Nat) : Int) ∧ ((tails3.c : Nat) : Int) ≤ ((tails3.c : Nat) : Int) ∧
    ∃ (I13 : (Int) → (Int) → World → Prop) (mu14 : (Int) → (Int) → World → Nat), I13 ((0 : Int)) ((0 : Int)) w9 ∧ (
    ∀ out15 : Int, ∀ i16 : Int, ∀ w17 : World, I13 out15 i16 w17 → ∀ u18 u19 u20 u21 u22 u23 u24 u25 u26 u27 u28 u29 u30 u31 u32 u33 u34 u35 : Value,
      BIf (decide (i16 < (((Slc.sub tails3 1 0 (Int.toNat (if ((s11.l : Nat) : Int) < ((tails3.l : Nat) : Int) then ((s11.l : Nat) : Int) else ((tails3.l : Nat) : Int))) tails3.c).l : Nat) : Int))) (
        needSome (Slc.sub tails3 1 0 (Int.toNat (if ((s11.l : Nat) : Int) < ((tails3.l : Nat) : Int) then ((s11.l : Nat) : Int) else ((tails3.l : Nat) : Int))) tails3.c).p fun a36 =>
        0 ≤ i16 ∧ i16 < (((Slc.sub tails3 1 0 (Int.toNat (if ((s11.l : Nat) : Int) < ((tails3.l : Nat) : Int) then ((s11.l : Nat) : Int) else ((tails3.l : Nat) : Int))) tails3.c).l : Nat) : Int) ∧
        ∃ n37 : Int, World.cell? w17 (Addr.add a36 ((Int.toNat i16) * 1)) = some (Value.int .i64 n37) ∧
        BIf (decide ((0 : Int) < n37)) (
          ∃ n38 : Int, ∃ s39 : Slc, rowAt w17 (⟨r4, 0, none⟩ : Addr) 0 [(Value.int .i64 n38), (Slc.v s39)] ∧
          inR .i64 ((if (4096 : Int) < n37 then (4096 : Int) else n37) - (1 : Int)) ∧
          Calls Tryd.prog fn_plan_Address ⟨[(Value.agg ⟨[(Value.int .i64 n38), (Slc.v s39)]⟩), (Value.int .i64 i16), (Value.int .i64 ((if (4096 : Int) < n37 then (4096 : Int) else n37) - (1 : Int)))]⟩ w17 fun e40 w41 =>
          ∃ n42 : Int, e40 = .returned (Value.int .i64 n42) ∧
          inR .i64 (n42 + (1 : Int)) ∧
          inR .i64 (i16 + (1 : Int)) ∧
          (I13 ((if (n42 + (1 : Int)) > out15 then (n42 + (1 : Int)) else out15)) ((i16 + (1 : Int))) w41 ∧ mu14 ((if (n42 + (1 : Int)) > out15 then (n42 + (1 : Int)) else out15)) ((i16 + (1 : Int))) w41 < mu14 out15 i16 w17)) (
          inR .i64 (i16 + (1 : Int)) ∧
          (I13 (out15) ((i16 + (1 : Int))) w17 ∧ mu14 (out15) ((i16 + (1 : Int))) w17 < mu14 out15 i16 w17))) (
        K (Value.int .i64 out15) w17)))

theorem plan_Tail_eq (p1 : Int) (p2 : Slc) (tails3 : Slc) (w : World) (K : Value → World → Prop) : plan_Tail p1 p2 tails3 w K = denF Tryd.prog callB Tryd.f9 (.two .none (.two .none (.two .none (.two (.two .none (.one (.loop [(5, (Sh.int .i64)), (20, (Sh.int .i64))] [6, 7, 21, 22, 23, 24, 25, 26, 27, 28, 29, 30, 31, 32, 33, 34, 35, 36] .none))) .none)))) [(Value.agg ⟨[(Value.int .i64 p1), (Slc.v p2)]⟩), (Slc.v tails3)] w K := by kernel_rfl
theorem plan_Tail_ok (p1 : Int) (p2 : Slc) (tails3 : Slc) {w : World} {R : Ending → World → Prop} (h : plan_Tail p1 p2 tails3 w fun v w' => R (.returned v) w') : Calls Tryd.prog fn_plan_Tail ⟨[(Value.agg ⟨[(Value.int .i64 p1), (Slc.v p2)]⟩), (Slc.v tails3)]⟩ w R :=
  calls_of_den callB_ok mixed Tryd.func9 (plan_Tail_eq p1 p2 tails3 w _ ▸ h)

end Go.D
