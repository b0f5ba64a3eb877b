/-
  WHAT IS PROVED: verification conditions of functions of this program, each with its soundness. No further conditions.
-/
import Derived.Test.YtaagbjbgaockdaaDoorBase
set_option linter.unusedSimpArgs false
set_option maxRecDepth 100000
set_option linter.unusedVariables false
namespace Go.D
open Go Go.Proofs
/-- math/bits.Mul64 -/
def math_bits_Mul64 (x1 : Int) (y2 : Int) (w : World) (K : Value → World → Prop) : Prop :=
  0 ≤ x1 ∧ 0 ≤ (4294967295 : Int) ∧ inR .u64 x1 ∧ inR .u64 (4294967295 : Int) ∧
  0 ≤ (32 : Int) ∧ 0 ≤ x1 ∧
  0 ≤ y2 ∧ 0 ≤ (4294967295 : Int) ∧ inR .u64 y2 ∧ inR .u64 (4294967295 : Int) ∧
  0 ≤ (32 : Int) ∧ 0 ≤ y2 ∧
  0 ≤ (32 : Int) ∧ 0 ≤ (IntKind.wrap .u64 ((bitsI .and x1 (4294967295 : Int)) * (bitsI .and y2 (4294967295 : Int)))) ∧
  0 ≤ (IntKind.wrap .u64 ((IntKind.wrap .u64 ((x1 / 4294967296) * (bitsI .and y2 (4294967295 : Int)))) + ((IntKind.wrap .u64 ((bitsI .and x1 (4294967295 : Int)) * (bitsI .and y2 (4294967295 : Int)))) / 4294967296))) ∧ 0 ≤ (4294967295 : Int) ∧ inR .u64 (IntKind.wrap .u64 ((IntKind.wrap .u64 ((x1 / 4294967296) * (bitsI .and y2 (4294967295 : Int)))) + ((IntKind.wrap .u64 ((bitsI .and x1 (4294967295 : Int)) * (bitsI .and y2 (4294967295 : Int)))) / 4294967296))) ∧ inR .u64 (4294967295 : Int) ∧
  0 ≤ (32 : Int) ∧ 0 ≤ (IntKind.wrap .u64 ((IntKind.wrap .u64 ((x1 / 4294967296) * (bitsI .and y2 (4294967295 : Int)))) + ((IntKind.wrap .u64 ((bitsI .and x1 (4294967295 : Int)) * (bitsI .and y2 (4294967295 : Int)))) / 4294967296))) ∧
  0 ≤ (32 : Int) ∧ 0 ≤ (IntKind.wrap .u64 ((bitsI .and (IntKind.wrap .u64 ((IntKind.wrap .u64 ((x1 / 4294967296) * (bitsI .and y2 (4294967295 : Int)))) + ((IntKind.wrap .u64 ((bitsI .and x1 (4294967295 : Int)) * (bitsI .and y2 (4294967295 : Int)))) / 4294967296))) (4294967295 : Int)) + (IntKind.wrap .u64 ((bitsI .and x1 (4294967295 : Int)) * (y2 / 4294967296))))) ∧
  K (Value.tuple ⟨[(Value.int .u64 (IntKind.wrap .u64 ((IntKind.wrap .u64 ((IntKind.wrap .u64 ((x1 / 4294967296) * (y2 / 4294967296))) + ((IntKind.wrap .u64 ((IntKind.wrap .u64 ((x1 / 4294967296) * (bitsI .and y2 (4294967295 : Int)))) + ((IntKind.wrap .u64 ((bitsI .and x1 (4294967295 : Int)) * (bitsI .and y2 (4294967295 : Int)))) / 4294967296))) / 4294967296))) + ((IntKind.wrap .u64 ((bitsI .and (IntKind.wrap .u64 ((IntKind.wrap .u64 ((x1 / 4294967296) * (bitsI .and y2 (4294967295 : Int)))) + ((IntKind.wrap .u64 ((bitsI .and x1 (4294967295 : Int)) * (bitsI .and y2 (4294967295 : Int)))) / 4294967296))) (4294967295 : Int)) + (IntKind.wrap .u64 ((bitsI .and x1 (4294967295 : Int)) * (y2 / 4294967296))))) / 4294967296)))), (Value.int .u64 (IntKind.wrap .u64 (x1 * y2)))]⟩) w

theorem math_bits_Mul64_eq (x1 : Int) (y2 : Int) (w : World) (K : Value → World → Prop) : math_bits_Mul64 x1 y2 w K = denF Tryd.prog callB Tryd.f50 (.two .none (.two .none (.two .none (.two .none (.two .none (.two (.reg [2]) (.two (.reg [2, 5]) (.two .none (.two .none (.two (.reg [3, 4]) (.two (.reg [2, 4, 7]) (.two (.reg [2]) .none)))))))))))) [(Value.int .u64 x1), (Value.int .u64 y2)] w K := by kernel_rfl
theorem math_bits_Mul64_ok (x1 : Int) (y2 : Int) {w : World} {R : Ending → World → Prop} (h : math_bits_Mul64 x1 y2 w fun v w' => R (.returned v) w') : Calls Tryd.prog fn_math_bits_Mul64 ⟨[(Value.int .u64 x1), (Value.int .u64 y2)]⟩ w R :=
  calls_of_den callB_ok mixed Tryd.func50 (math_bits_Mul64_eq x1 y2 w _ ▸ h)

/-- math/bits.Mul -/
def math_bits_Mul (x1 : Int) (y2 : Int) (w : World) (K : Value → World → Prop) : Prop :=
  Calls Tryd.prog fn_math_bits_Mul64 ⟨[(Value.int .u64 x1), (Value.int .u64 y2)]⟩ w fun e3 w4 =>
  ∃ n5 : Int, ∃ n6 : Int, e3 = .returned (Value.tuple ⟨[(Value.int .u64 n5), (Value.int .u64 n6)]⟩) ∧
  K (Value.tuple ⟨[(Value.int .u64 n5), (Value.int .u64 n6)]⟩) w4

theorem math_bits_Mul_eq (x1 : Int) (y2 : Int) (w : World) (K : Value → World → Prop) : math_bits_Mul x1 y2 w K = denF Tryd.prog callB Tryd.f40 .none [(Value.int .u64 x1), (Value.int .u64 y2)] w K := by kernel_rfl
theorem math_bits_Mul_ok (x1 : Int) (y2 : Int) {w : World} {R : Ending → World → Prop} (h : math_bits_Mul x1 y2 w fun v w' => R (.returned v) w') : Calls Tryd.prog fn_math_bits_Mul ⟨[(Value.int .u64 x1), (Value.int .u64 y2)]⟩ w R :=
  calls_of_den callB_ok mixed Tryd.func40 (math_bits_Mul_eq x1 y2 w _ ▸ h)

/-- slices.Repeat[[]tidewater/net.node,tidewater/net.node] -/
def slices_Repeat_node (x1 : Slc) (count2 : Int) (w : World) (K : Value → World → Prop) : Prop :=
  ∃ J3 : World → Prop,
  (
    BIf (decide (count2 < (0 : Int))) (
      False) (
      J3 w)) ∧ (
  ∀ w4 : World, J3 w4 → ∀ u5 u6 u7 : Value,
    Calls Tryd.prog fn_math_bits_Mul ⟨[(Value.int .u64 (IntKind.wrap .u64 ((x1.l : Nat) : Int))), (Value.int .u64 (IntKind.wrap .u64 count2))]⟩ w4 fun e8 w9 =>
    ∃ n10 : Int, ∃ n11 : Int, e8 = .returned (Value.tuple ⟨[(Value.int .u64 n10), (Value.int .u64 n11)]⟩) ∧
    ∃ J12 : World → Prop,
    (
      BIf (decide ((0 : Int) < n10)) (
        False) (
        BIf (decide ((9223372036854775807 : Int) < n11)) (
          False) (
          J12 w9))) ∧ (
    ∀ w13 : World, J12 w13 → ∀ u14 u15 u16 u17 u18 u19 u20 : Value,
      0 ≤ (IntKind.wrap .i64 n11) ∧ (IntKind.wrap .i64 n11) ≤ (IntKind.wrap .i64 n11) ∧ (IntKind.wrap .i64 n11) ≤ 2 ^ 30 ∧
      newS w13 (.cells ⟨repl (Int.toNat (IntKind.wrap .i64 n11)) [(Value.bool false), (Value.bool false)]⟩ 57) fun r21 w22 =>
      copyS 2 w22 (⟨(some (⟨r21, 0, none⟩ : Addr)), (Int.toNat (IntKind.wrap .i64 n11)), (Int.toNat (IntKind.wrap .i64 n11))⟩ : Slc) (.slc x1) fun n23 w24 =>
      ∃ (I25 : (Int) → World → Prop) (mu26 : (Int) → World → Nat), I25 (n23) w24 ∧ (
      ∀ n27 : Int, ∀ w28 : World, I25 n27 w28 → ∀ u29 u30 u31 u32 u33 u34 u35 u36 u37 u38 u39 u40 u41 : Value,
        BIf (decide (n27 < (((Int.toNat (IntKind.wrap .i64 n11)) : Nat) : Int))) (
          0 ≤ n27 ∧ n27 ≤ (((Int.toNat (IntKind.wrap .i64 n11)) : Nat) : Int) ∧ (((Int.toNat (IntKind.wrap .i64 n11)) : Nat) : Int) ≤ (((Int.toNat (IntKind.wrap .i64 n11)) : Nat) : Int) ∧ (((Int.toNat (IntKind.wrap .i64 n11)) : Nat) : Int) ≤ (((Int.toNat (IntKind.wrap .i64 n11)) : Nat) : Int) ∧
          0 ≤ (0 : Int) ∧ (0 : Int) ≤ n27 ∧ n27 ≤ (((Int.toNat (IntKind.wrap .i64 n11)) : Nat) : Int) ∧ (((Int.toNat (IntKind.wrap .i64 n11)) : Nat) : Int) ≤ (((Int.toNat (IntKind.wrap .i64 n11)) : Nat) : Int) ∧
          copyS 2 (World.drew w28) (Slc.sub (⟨(some (⟨r21, 0, none⟩ : Addr)), (Int.toNat (IntKind.wrap .i64 n11)), (Int.toNat (IntKind.wrap .i64 n11))⟩ : Slc) 2 (Int.toNat n27) (Int.toNat (IntKind.wrap .i64 n11)) (Int.toNat (IntKind.wrap .i64 n11))) (.slc (Slc.sub (⟨(some (⟨r21, 0, none⟩ : Addr)), (Int.toNat (IntKind.wrap .i64 n11)), (Int.toNat (IntKind.wrap .i64 n11))⟩ : Slc) 2 0 (Int.toNat n27) (Int.toNat (IntKind.wrap .i64 n11)))) fun n44 w45 =>
          inR .i64 (n27 + n44) ∧
          (I25 ((n27 + n44)) w45 ∧ mu26 ((n27 + n44)) w45 < mu26 n27 w28)) (
          K (Slc.v (⟨(some (⟨r21, 0, none⟩ : Addr)), (Int.toNat (IntKind.wrap .i64 n11)), (Int.toNat (IntKind.wrap .i64 n11))⟩ : Slc)) w28))))

theorem slices_Repeat_node_eq (x1 : Slc) (count2 : Int) (w : World) (K : Value → World → Prop) : slices_Repeat_node x1 count2 w K = denF Tryd.prog callB Tryd.f21 (.two .none (.cut [] [9, 10, 11] .none (.two .none (.cut [] [21, 22, 23, 24, 25, 26, 27] .none (.two .none (.two .none (.two (.one (.loop [(8, (Sh.int .i64))] [34, 35, 36, 37, 38, 39, 40, 41, 42, 43, 44, 45, 46] .none)) .none))))))) [(Slc.v x1), (Value.int .i64 count2)] w K := by kernel_rfl
theorem slices_Repeat_node_ok (x1 : Slc) (count2 : Int) {w : World} {R : Ending → World → Prop} (h : slices_Repeat_node x1 count2 w fun v w' => R (.returned v) w') : Calls Tryd.prog fn_slices_Repeat_node ⟨[(Slc.v x1), (Value.int .i64 count2)]⟩ w R :=
  calls_of_den callB_ok mixed Tryd.func21 (slices_Repeat_node_eq x1 count2 w _ ▸ h)

/-- (*tidewater/net.Net).has -/
def net_Net_has (t1 : Option Addr) (i2 : Int) (w : World) (K : Value → World → Prop) : Prop :=
  BIf (decide ((0 : Int) ≤ i2)) (
    needSome t1 fun a3 =>
    ∃ s4 : Slc, World.cell? w a3 = some (Slc.v s4) ∧
    K (Value.bool (decide (i2 < ((s4.l : Nat) : Int)))) w) (
    K (Value.bool false) w)

theorem net_Net_has_eq (t1 : Option Addr) (i2 : Int) (w : World) (K : Value → World → Prop) : net_Net_has t1 i2 w K = denF Tryd.prog callB Tryd.f22 .none [(Value.pointer t1), (Value.int .i64 i2)] w K := by kernel_rfl
theorem net_Net_has_ok (t1 : Option Addr) (i2 : Int) {w : World} {R : Ending → World → Prop} (h : net_Net_has t1 i2 w fun v w' => R (.returned v) w') : Calls Tryd.prog fn_net_Net_has ⟨[(Value.pointer t1), (Value.int .i64 i2)]⟩ w R :=
  calls_of_den callB_ok mixed Tryd.func22 (net_Net_has_eq t1 i2 w _ ▸ h)

/-- (*tidewater/net.Net).put -/
def net_Net_put (t1 : Option Addr) (m2 : Int) (m3 : Int) (m4 : Int) (m5 : Slc) (w : World) (K : Value → World → Prop) : Prop :=
  newS w (.cells ⟨[(Value.int .i64 m2), (Value.int .i64 m3), (Value.int .i64 m4), (Slc.v m5)]⟩ 38) fun r6 w7 =>
  needSome t1 fun a8 =>
  ∃ s9 : Slc, World.cell? w7 (a8.add 1) = some (Slc.v s9) ∧
  BIf (decide ((4096 : Int) ≤ ((s9.l : Nat) : Int))) (
    ∃ v10 : Value, World.cell? (World.drew w7) (⟨gl_ErrFull, 0, none⟩ : Addr) = some v10 ∧
    K (Value.tuple ⟨[(Value.int .i64 (0 : Int)), v10]⟩) (World.drew w7)) (
    needSome t1 fun a11 =>
    ∃ n12 : Int, World.cell? (World.drew w7) (a11.add 2) = some (Value.int .i64 n12) ∧
    ∃ s13 : Slc, World.cell? (World.drew w7) (⟨r6, 3, none⟩ : Addr) = some (Slc.v s13) ∧
    Calls Tryd.prog fn_slices_Clone_byte ⟨[(Slc.v s13)]⟩ (World.drew w7) fun e14 w15 =>
    ∃ s16 : Slc, e14 = .returned (Slc.v s16) ∧
    (∃ n17 : Int, World.cell? w15 (a11.add 2) = some (Value.int .i64 n17) ∧
    (Value.int .i64 n17) = (Value.int .i64 n12)) ∧
    canW w15 (⟨r6, 0, none⟩ : Addr) 1 ∧ ∀ w18 : World, w18 = World.setCell w15 (⟨r6, 0, none⟩ : Addr) (Value.int .i64 n12) →
    canW w18 (⟨r6, 3, none⟩ : Addr) 1 ∧ ∀ w19 : World, w19 = World.setCell w18 (⟨r6, 3, none⟩ : Addr) (Slc.v s16) →
    needSome t1 fun a20 =>
    ∃ s21 : Slc, World.cell? (World.drew w19) (a20.add 1) = some (Slc.v s21) ∧
    ∃ n22 : Int, ∃ n23 : Int, ∃ n24 : Int, ∃ s25 : Slc, rowAt (World.drew w19) (⟨r6, 0, none⟩ : Addr) 0 [(Value.int .i64 n22), (Value.int .i64 n23), (Value.int .i64 n24), (Slc.v s25)] ∧
    newS (World.drew w19) (.cells ⟨[(Value.int .i64 n22), (Value.int .i64 n23), (Value.int .i64 n24), (Slc.v s25)]⟩ 38) fun r26 w27 =>
    (∃ s28 : Slc, World.cell? w27 (a20.add 1) = some (Slc.v s28) ∧
    (Slc.v s28) = (Slc.v s21)) ∧
    appendS 4 38 [(Value.int .i64 (0 : Int)), (Value.int .i64 (0 : Int)), (Value.int .i64 (0 : Int)), (Slc.v (⟨none, 0, 0⟩ : Slc))] w27 s21 (.slc (⟨(some (⟨r26, 0, none⟩ : Addr)), 1, 1⟩ : Slc)) fun s29 w30 =>
    needSome t1 fun a31 =>
    canW w30 (a31.add 1) 1 ∧ ∀ w32 : World, w32 = World.setCell w30 (a31.add 1) (Slc.v s29) →
    needSome t1 fun a33 =>
    ∃ n34 : Int, World.cell? w32 (a33.add 2) = some (Value.int .i64 n34) ∧
    inR .i64 (n34 + (1 : Int)) ∧
    needSome t1 fun a35 =>
    canW w32 (a35.add 2) 1 ∧ ∀ w36 : World, w36 = World.setCell w32 (a35.add 2) (Value.int .i64 (n34 + (1 : Int))) →
    ∃ n37 : Int, World.cell? w36 (⟨r6, 0, none⟩ : Addr) = some (Value.int .i64 n37) ∧
    K (Value.tuple ⟨[(Value.int .i64 n37), Value.nilIface]⟩) w36)

theorem net_Net_put_eq (t1 : Option Addr) (m2 : Int) (m3 : Int) (m4 : Int) (m5 : Slc) (w : World) (K : Value → World → Prop) : net_Net_put t1 m2 m3 m4 m5 w K = denF Tryd.prog callB Tryd.f23 .none [(Value.pointer t1), (Value.agg ⟨[(Value.int .i64 m2), (Value.int .i64 m3), (Value.int .i64 m4), (Slc.v m5)]⟩)] w K := by kernel_rfl
theorem net_Net_put_ok (t1 : Option Addr) (m2 : Int) (m3 : Int) (m4 : Int) (m5 : Slc) {w : World} {R : Ending → World → Prop} (h : net_Net_put t1 m2 m3 m4 m5 w fun v w' => R (.returned v) w') : Calls Tryd.prog fn_net_Net_put ⟨[(Value.pointer t1), (Value.agg ⟨[(Value.int .i64 m2), (Value.int .i64 m3), (Value.int .i64 m4), (Slc.v m5)]⟩)]⟩ w R :=
  calls_of_den callB_ok mixed Tryd.func23 (net_Net_put_eq t1 m2 m3 m4 m5 w _ ▸ h)

/-- (*tidewater/net.Net).find$1 -/
def net_Net_find_1 (m1 : Int) (m2 : Int) (m3 : Int) (m4 : Slc) (cap5 : Option Addr) (w : World) (K : Value → World → Prop) : Prop :=
  newS w (.cells ⟨[(Value.int .i64 m1), (Value.int .i64 m2), (Value.int .i64 m3), (Slc.v m4)]⟩ 38) fun r6 w7 =>
  ∃ n8 : Int, World.cell? w7 (⟨r6, 0, none⟩ : Addr) = some (Value.int .i64 n8) ∧
  needSome cap5 fun a9 =>
  ∃ n10 : Int, World.cell? w7 a9 = some (Value.int .i64 n10) ∧
  K (Value.bool (decide (n8 = n10))) w7

theorem net_Net_find_1_eq (m1 : Int) (m2 : Int) (m3 : Int) (m4 : Slc) (cap5 : Option Addr) (w : World) (K : Value → World → Prop) : net_Net_find_1 m1 m2 m3 m4 cap5 w K = denF Tryd.prog callB Tryd.f41 .none [(Value.agg ⟨[(Value.int .i64 m1), (Value.int .i64 m2), (Value.int .i64 m3), (Slc.v m4)]⟩), (Value.pointer cap5)] w K := by kernel_rfl
theorem net_Net_find_1_ok (m1 : Int) (m2 : Int) (m3 : Int) (m4 : Slc) (cap5 : Option Addr) {w : World} {R : Ending → World → Prop} (h : net_Net_find_1 m1 m2 m3 m4 cap5 w fun v w' => R (.returned v) w') : Calls Tryd.prog fn_net_Net_find_1 ⟨[(Value.agg ⟨[(Value.int .i64 m1), (Value.int .i64 m2), (Value.int .i64 m3), (Slc.v m4)]⟩), (Value.pointer cap5)]⟩ w R :=
  calls_of_den callB_ok mixed Tryd.func41 (net_Net_find_1_eq m1 m2 m3 m4 cap5 w _ ▸ h)

/-- slices.IndexFunc[[]tidewater/net.Message,tidewater/net.Message] -/
def slices_IndexFunc_Message_net_Net_find_1 (s1 : Slc) (c2 : Option Addr) (w : World) (K : Value → World → Prop) : Prop :=
  ∃ (I3 : (Int) → World → Prop) (mu4 : (Int) → World → Nat), I3 ((0 : Int)) w ∧ (
  ∀ i5 : Int, ∀ w6 : World, I3 i5 w6 → ∀ u7 u8 u9 u10 u11 u12 u13 u14 u15 u16 u17 u18 : Value,
    BIf (decide (i5 < ((s1.l : Nat) : Int))) (
      needSome s1.p fun a19 =>
      0 ≤ i5 ∧ i5 < ((s1.l : Nat) : Int) ∧
      ∃ n20 : Int, ∃ n21 : Int, ∃ n22 : Int, ∃ s23 : Slc, rowAt w6 (Addr.add a19 ((Int.toNat i5) * 4)) 0 [(Value.int .i64 n20), (Value.int .i64 n21), (Value.int .i64 n22), (Slc.v s23)] ∧
      Calls Tryd.prog fn_net_Net_find_1 ⟨[(Value.agg ⟨[(Value.int .i64 n20), (Value.int .i64 n21), (Value.int .i64 n22), (Slc.v s23)]⟩), (Value.pointer c2)]⟩ w6 fun e24 w25 =>
      ∃ b26 : Bool, e24 = .returned (Value.bool b26) ∧
      BIf b26 (
        K (Value.int .i64 i5) w25) (
        inR .i64 (i5 + (1 : Int)) ∧
        (I3 ((i5 + (1 : Int))) w25 ∧ mu4 ((i5 + (1 : Int))) w25 < mu4 i5 w6))) (
      K (Value.int .i64 (-1 : Int)) w6))

theorem slices_IndexFunc_Message_net_Net_find_1_eq (s1 : Slc) (c2 : Option Addr) (w : World) (K : Value → World → Prop) : slices_IndexFunc_Message_net_Net_find_1 s1 c2 w K = denF Tryd.prog callB Tryd.f38 (.two .none (.two (.two .none (.one (.loop [(8, (Sh.int .i64))] [4, 5, 9, 10, 11, 12, 13, 14, 15, 16, 17, 18] .none))) .none)) [(Slc.v s1), (Value.func (.func 41) ⟨[]⟩ ⟨[(Value.pointer c2)]⟩)] w K := by kernel_rfl
theorem slices_IndexFunc_Message_net_Net_find_1_ok (s1 : Slc) (c2 : Option Addr) {w : World} {R : Ending → World → Prop} (h : slices_IndexFunc_Message_net_Net_find_1 s1 c2 w fun v w' => R (.returned v) w') : Calls Tryd.prog fn_slices_IndexFunc_Message ⟨[(Slc.v s1), (Value.func (.func 41) ⟨[]⟩ ⟨[(Value.pointer c2)]⟩)]⟩ w R :=
  calls_of_den callB_ok mixed Tryd.func38 (slices_IndexFunc_Message_net_Net_find_1_eq s1 c2 w _ ▸ h)

/-- (*tidewater/net.Net).find -/
def net_Net_find (t1 : Option Addr) (number2 : Int) (w : World) (K : Value → World → Prop) : Prop :=
  newS w (.cells ⟨[(Value.int .i64 number2)]⟩ 3) fun r3 w4 =>
  needSome t1 fun a5 =>
  ∃ s6 : Slc, World.cell? w4 (a5.add 1) = some (Slc.v s6) ∧
  Calls Tryd.prog fn_slices_IndexFunc_Message ⟨[(Slc.v s6), (Value.func (.func 41) ⟨[]⟩ ⟨[(Value.pointer (some (⟨r3, 0, none⟩ : Addr)))]⟩)]⟩ w4 fun e7 w8 =>
  ∃ n9 : Int, e7 = .returned (Value.int .i64 n9) ∧
  K (Value.int .i64 n9) w8

theorem net_Net_find_eq (t1 : Option Addr) (number2 : Int) (w : World) (K : Value → World → Prop) : net_Net_find t1 number2 w K = denF Tryd.prog callB Tryd.f24 .none [(Value.pointer t1), (Value.int .i64 number2)] w K := by kernel_rfl
theorem net_Net_find_ok (t1 : Option Addr) (number2 : Int) {w : World} {R : Ending → World → Prop} (h : net_Net_find t1 number2 w fun v w' => R (.returned v) w') : Calls Tryd.prog fn_net_Net_find ⟨[(Value.pointer t1), (Value.int .i64 number2)]⟩ w R :=
  calls_of_den callB_ok mixed Tryd.func24 (net_Net_find_eq t1 number2 w _ ▸ h)

/-- slices.Delete[[]tidewater/net.Message,tidewater/net.Message] -/
def slices_Delete_Message (s1 : Slc) (i2 : Int) (j3 : Int) (w : World) (K : Value → World → Prop) : Prop :=
  0 ≤ i2 ∧ i2 ≤ j3 ∧ j3 ≤ ((s1.l : Nat) : Int) ∧ ((s1.l : Nat) : Int) ≤ ((s1.c : Nat) : Int) ∧
  BIf (decide (i2 = j3)) (
    K (Slc.v s1) w) (
    0 ≤ (0 : Int) ∧ (0 : Int) ≤ i2 ∧ i2 ≤ ((s1.c : Nat) : Int) ∧ ((s1.c : Nat) : Int) ≤ ((s1.c : Nat) : Int) ∧
    0 ≤ j3 ∧ j3 ≤ ((s1.l : Nat) : Int) ∧ ((s1.l : Nat) : Int) ≤ ((s1.c : Nat) : Int) ∧ ((s1.c : Nat) : Int) ≤ ((s1.c : Nat) : Int) ∧
    appendS 4 38 [(Value.int .i64 (0 : Int)), (Value.int .i64 (0 : Int)), (Value.int .i64 (0 : Int)), (Slc.v (⟨none, 0, 0⟩ : Slc))] (World.drew w) (Slc.sub s1 4 0 (Int.toNat i2) s1.c) (.slc (Slc.sub s1 4 (Int.toNat j3) s1.l s1.c)) fun s7 w8 =>
    0 ≤ ((s7.l : Nat) : Int) ∧ ((s7.l : Nat) : Int) ≤ ((s1.l : Nat) : Int) ∧ ((s1.l : Nat) : Int) ≤ ((s7.c : Nat) : Int) ∧ ((s7.c : Nat) : Int) ≤ ((s7.c : Nat) : Int) ∧
    clearS [(Value.int .i64 (0 : Int)), (Value.int .i64 (0 : Int)), (Value.int .i64 (0 : Int)), (Slc.v (⟨none, 0, 0⟩ : Slc))] w8 (Slc.sub s7 4 s7.l s1.l s7.c) fun w10 =>
    K (Slc.v s7) w10)

theorem slices_Delete_Message_eq (s1 : Slc) (i2 : Int) (j3 : Int) (w : World) (K : Value → World → Prop) : slices_Delete_Message s1 i2 j3 w K = denF Tryd.prog callB Tryd.f42 .none [(Slc.v s1), (Value.int .i64 i2), (Value.int .i64 j3)] w K := by kernel_rfl
theorem slices_Delete_Message_ok (s1 : Slc) (i2 : Int) (j3 : Int) {w : World} {R : Ending → World → Prop} (h : slices_Delete_Message s1 i2 j3 w fun v w' => R (.returned v) w') : Calls Tryd.prog fn_slices_Delete_Message ⟨[(Slc.v s1), (Value.int .i64 i2), (Value.int .i64 j3)]⟩ w R :=
  calls_of_den callB_ok mixed Tryd.func42 (slices_Delete_Message_eq s1 i2 j3 w _ ▸ h)

/-- (*tidewater/net.Net).Reach -/
def net_Net_Reach (t1 : Option Addr) (from2 : Int) (to3 : Int) (w : World) (K : Value → World → Prop) : Prop :=
  Calls Tryd.prog fn_net_Net_has ⟨[(Value.pointer t1), (Value.int .i64 from2)]⟩ (World.drew w) fun e4 w5 =>
  ∃ b6 : Bool, e4 = .returned (Value.bool b6) ∧
  BIf b6 (
    Calls Tryd.prog fn_net_Net_has ⟨[(Value.pointer t1), (Value.int .i64 to3)]⟩ w5 fun e7 w8 =>
    ∃ b9 : Bool, e7 = .returned (Value.bool b9) ∧
    BIf b9 (
      needSome t1 fun a10 =>
      ∃ s11 : Slc, World.cell? w8 a10 = some (Slc.v s11) ∧
      needSome s11.p fun a12 =>
      0 ≤ from2 ∧ from2 < ((s11.l : Nat) : Int) ∧
      ∃ b13 : Bool, World.cell? w8 (Addr.add a12 ((Int.toNat from2) * 2)) = some (Value.bool b13) ∧
      BIf b13 (
        needSome t1 fun a14 =>
        ∃ s15 : Slc, World.cell? w8 a14 = some (Slc.v s15) ∧
        needSome s15.p fun a16 =>
        0 ≤ to3 ∧ to3 < ((s15.l : Nat) : Int) ∧
        ∃ b17 : Bool, World.cell? w8 (Addr.add a16 ((Int.toNat to3) * 2)) = some (Value.bool b17) ∧
        BIf b17 (
          needSome t1 fun a18 =>
          ∃ s19 : Slc, World.cell? w8 a18 = some (Slc.v s19) ∧
          needSome s19.p fun a20 =>
          0 ≤ from2 ∧ from2 < ((s19.l : Nat) : Int) ∧
          ∃ b21 : Bool, World.cell? w8 ((Addr.add a20 ((Int.toNat from2) * 2)).add 1) = some (Value.bool b21) ∧
          needSome t1 fun a22 =>
          ∃ s23 : Slc, World.cell? w8 a22 = some (Slc.v s23) ∧
          needSome s23.p fun a24 =>
          0 ≤ to3 ∧ to3 < ((s23.l : Nat) : Int) ∧
          ∃ b25 : Bool, World.cell? w8 ((Addr.add a24 ((Int.toNat to3) * 2)).add 1) = some (Value.bool b25) ∧
          K (Value.bool (b21 == b25)) w8) (
          K (Value.bool false) w8)) (
        K (Value.bool false) w8)) (
      K (Value.bool false) w8)) (
    K (Value.bool false) w5)

theorem net_Net_Reach_eq (t1 : Option Addr) (from2 : Int) (to3 : Int) (w : World) (K : Value → World → Prop) : net_Net_Reach t1 from2 to3 w K = denF Tryd.prog callB Tryd.f25 .none [(Value.pointer t1), (Value.int .i64 from2), (Value.int .i64 to3)] w K := by kernel_rfl
theorem net_Net_Reach_ok (t1 : Option Addr) (from2 : Int) (to3 : Int) {w : World} {R : Ending → World → Prop} (h : net_Net_Reach t1 from2 to3 w fun v w' => R (.returned v) w') : Calls Tryd.prog fn_net_Net_Reach ⟨[(Value.pointer t1), (Value.int .i64 from2), (Value.int .i64 to3)]⟩ w R :=
  calls_of_den callB_ok mixed Tryd.func25 (net_Net_Reach_eq t1 from2 to3 w _ ▸ h)

/-- (*tidewater/net.Net).take -/
def net_Net_take (t1 : Option Addr) (i2 : Int) (w : World) (K : Value → World → Prop) : Prop :=
  newS w (.cells ⟨[(Value.int .i64 (0 : Int)), (Value.int .i64 (0 : Int)), (Value.int .i64 (0 : Int)), (Slc.v (⟨none, 0, 0⟩ : Slc))]⟩ 38) fun r3 w4 =>
  needSome t1 fun a5 =>
  ∃ s6 : Slc, World.cell? w4 (a5.add 1) = some (Slc.v s6) ∧
  needSome s6.p fun a7 =>
  0 ≤ i2 ∧ i2 < ((s6.l : Nat) : Int) ∧
  ∃ n8 : Int, ∃ n9 : Int, ∃ n10 : Int, ∃ s11 : Slc, rowAt w4 (Addr.add a7 ((Int.toNat i2) * 4)) 0 [(Value.int .i64 n8), (Value.int .i64 n9), (Value.int .i64 n10), (Slc.v s11)] ∧
  newS w4 (.cells ⟨[(Value.int .i64 (0 : Int)), (Value.int .i64 (0 : Int)), (Value.int .i64 (0 : Int)), (Slc.v (⟨none, 0, 0⟩ : Slc))]⟩ 38) fun r12 w13 =>
  canW w13 (⟨r12, 0, none⟩ : Addr) 4 ∧ ∀ w14 : World, w14 = setCells w13 (⟨r12, 0, none⟩ : Addr) 0 [(Value.int .i64 n8), (Value.int .i64 n9), (Value.int .i64 n10), (Slc.v s11)] →
  needSome t1 fun a15 =>
  ∃ s16 : Slc, World.cell? w14 (a15.add 1) = some (Slc.v s16) ∧
  inR .i64 (i2 + (1 : Int)) ∧
  Calls Tryd.prog fn_slices_Delete_Message ⟨[(Slc.v s16), (Value.int .i64 i2), (Value.int .i64 (i2 + (1 : Int)))]⟩ w14 fun e17 w18 =>
  ∃ s19 : Slc, e17 = .returned (Slc.v s19) ∧
  needSome t1 fun a20 =>
  canW w18 (a20.add 1) 1 ∧ ∀ w21 : World, w21 = World.setCell w18 (a20.add 1) (Slc.v s19) →
  ∃ n22 : Int, ∃ n23 : Int, ∃ n24 : Int, ∃ s25 : Slc, rowAt w21 (⟨r12, 0, none⟩ : Addr) 0 [(Value.int .i64 n22), (Value.int .i64 n23), (Value.int .i64 n24), (Slc.v s25)] ∧
  canW w21 (⟨r3, 0, none⟩ : Addr) 4 ∧ ∀ w26 : World, w26 = setCells w21 (⟨r3, 0, none⟩ : Addr) 0 [(Value.int .i64 n22), (Value.int .i64 n23), (Value.int .i64 n24), (Slc.v s25)] →
  ∃ n27 : Int, ∃ n28 : Int, ∃ n29 : Int, ∃ s30 : Slc, rowAt w26 (⟨r3, 0, none⟩ : Addr) 0 [(Value.int .i64 n27), (Value.int .i64 n28), (Value.int .i64 n29), (Slc.v s30)] ∧
  K (Value.agg ⟨[(Value.int .i64 n27), (Value.int .i64 n28), (Value.int .i64 n29), (Slc.v s30)]⟩) w26

theorem net_Net_take_eq (t1 : Option Addr) (i2 : Int) (w : World) (K : Value → World → Prop) : net_Net_take t1 i2 w K = denF Tryd.prog callB Tryd.f26 .none [(Value.pointer t1), (Value.int .i64 i2)] w K := by kernel_rfl
theorem net_Net_take_ok (t1 : Option Addr) (i2 : Int) {w : World} {R : Ending → World → Prop} (h : net_Net_take t1 i2 w fun v w' => R (.returned v) w') : Calls Tryd.prog fn_net_Net_take ⟨[(Value.pointer t1), (Value.int .i64 i2)]⟩ w R :=
  calls_of_den callB_ok mixed Tryd.func26 (net_Net_take_eq t1 i2 w _ ▸ h)

/-- slices.Clone[[]tidewater/net.Message,tidewater/net.Message] -/
def slices_Clone_Message (s1 : Slc) (w : World) (K : Value → World → Prop) : Prop :=
  BIf (Option.isNone (s1.p : Option Addr)) (
    K (Slc.v (⟨none, 0, 0⟩ : Slc)) w) (
    newS w (.cells ⟨[]⟩ 38) fun r2 w3 =>
    appendS 4 38 [(Value.int .i64 (0 : Int)), (Value.int .i64 (0 : Int)), (Value.int .i64 (0 : Int)), (Slc.v (⟨none, 0, 0⟩ : Slc))] w3 (⟨(some (⟨r2, 0, none⟩ : Addr)), 0, 0⟩ : Slc) (.slc s1) fun s4 w5 =>
    K (Slc.v s4) w5)

theorem slices_Clone_Message_eq (s1 : Slc) (w : World) (K : Value → World → Prop) : slices_Clone_Message s1 w K = denF Tryd.prog callB Tryd.f27 .none [(Slc.v s1)] w K := by kernel_rfl
theorem slices_Clone_Message_ok (s1 : Slc) {w : World} {R : Ending → World → Prop} (h : slices_Clone_Message s1 w fun v w' => R (.returned v) w') : Calls Tryd.prog fn_slices_Clone_Message ⟨[(Slc.v s1)]⟩ w R :=
  calls_of_den callB_ok mixed Tryd.func27 (slices_Clone_Message_eq s1 w _ ▸ h)

/-- tidewater/net.New -/
def net_New (n1 : Int) (w : World) (K : Value → World → Prop) : Prop :=
  BIf (decide (n1 < (1 : Int))) (
    ∃ v2 : Value, World.cell? (World.drew w) (⟨gl_ErrRange, 0, none⟩ : Addr) = some v2 ∧
    K (Value.tuple ⟨[(Value.pointer none), v2]⟩) (World.drew w)) (
    BIf (decide ((16 : Int) < n1)) (
      ∃ v3 : Value, World.cell? (World.drew w) (⟨gl_ErrRange, 0, none⟩ : Addr) = some v3 ∧
      K (Value.tuple ⟨[(Value.pointer none), v3]⟩) (World.drew w)) (
      newS w (.cells ⟨[(Value.bool true), (Value.bool false)]⟩ 57) fun r4 w5 =>
      Calls Tryd.prog fn_slices_Repeat_node ⟨[(Slc.v (⟨(some (⟨r4, 0, none⟩ : Addr)), 1, 1⟩ : Slc)), (Value.int .i64 n1)]⟩ w5 fun e6 w7 =>
      ∃ s8 : Slc, e6 = .returned (Slc.v s8) ∧
      newS w7 (.cells ⟨[(Slc.v s8), (Slc.v (⟨none, 0, 0⟩ : Slc)), (Value.int .i64 (0 : Int))]⟩ 59) fun r9 w10 =>
      K (Value.tuple ⟨[(Value.pointer (some (⟨r9, 0, none⟩ : Addr))), Value.nilIface]⟩) w10))

theorem net_New_eq (n1 : Int) (w : World) (K : Value → World → Prop) : net_New n1 w K = denF Tryd.prog callB Tryd.f8 .none [(Value.int .i64 n1)] w K := by kernel_rfl
theorem net_New_ok (n1 : Int) {w : World} {R : Ending → World → Prop} (h : net_New n1 w fun v w' => R (.returned v) w') : Calls Tryd.prog fn_net_New ⟨[(Value.int .i64 n1)]⟩ w R :=
  calls_of_den callB_ok mixed Tryd.func8 (net_New_eq n1 w _ ▸ h)

/-- (*tidewater/net.Net).Send -/
def net_Net_Send (t1 : Option Addr) (from2 : Int) (to3 : Int) (b4 : Slc) (w : World) (K : Value → World → Prop) : Prop :=
  ∃ J5 : (Bool) → World → Prop,
  (
    Calls Tryd.prog fn_net_Net_has ⟨[(Value.pointer t1), (Value.int .i64 from2)]⟩ w fun e6 w7 =>
    ∃ b8 : Bool, e6 = .returned (Value.bool b8) ∧
    BIf (!b8) (
      J5 (true) w7) (
      Calls Tryd.prog fn_net_Net_has ⟨[(Value.pointer t1), (Value.int .i64 to3)]⟩ w7 fun e9 w10 =>
      ∃ b11 : Bool, e9 = .returned (Value.bool b11) ∧
      J5 ((!b11)) w10)) ∧ (
  ∀ x12 : Bool, ∀ w13 : World, J5 x12 w13 → ∀ u14 u15 u16 u17 u18 u19 u20 u21 u22 u23 : Value,
    BIf x12 (
      ∃ v24 : Value, World.cell? (World.drew w13) (⟨gl_ErrRange, 0, none⟩ : Addr) = some v24 ∧
      K (Value.tuple ⟨[(Value.int .i64 (0 : Int)), v24]⟩) (World.drew w13)) (
      BIf (decide ((4096 : Int) < ((b4.l : Nat) : Int))) (
        ∃ v25 : Value, World.cell? (World.drew w13) (⟨gl_ErrLong, 0, none⟩ : Addr) = some v25 ∧
        K (Value.tuple ⟨[(Value.int .i64 (0 : Int)), v25]⟩) (World.drew w13)) (
        needSome t1 fun a26 =>
        ∃ s27 : Slc, World.cell? w13 a26 = some (Slc.v s27) ∧
        needSome s27.p fun a28 =>
        0 ≤ from2 ∧ from2 < ((s27.l : Nat) : Int) ∧
        ∃ b29 : Bool, World.cell? w13 (Addr.add a28 ((Int.toNat from2) * 2)) = some (Value.bool b29) ∧
        BIf (!b29) (
          ∃ v30 : Value, World.cell? (World.drew w13) (⟨gl_ErrDown, 0, none⟩ : Addr) = some v30 ∧
          K (Value.tuple ⟨[(Value.int .i64 (0 : Int)), v30]⟩) (World.drew w13)) (
          Calls Tryd.prog fn_net_Net_put ⟨[(Value.pointer t1), (Value.agg ⟨[(Value.int .i64 (0 : Int)), (Value.int .i64 from2), (Value.int .i64 to3), (Slc.v b4)]⟩)]⟩ w13 fun e31 w32 =>
          ∃ n33 : Int, ∃ e34 : Value, e31 = .returned (Value.tuple ⟨[(Value.int .i64 n33), e34]⟩) ∧
          K (Value.tuple ⟨[(Value.int .i64 n33), e34]⟩) w32))))

theorem net_Net_Send_eq (t1 : Option Addr) (from2 : Int) (to3 : Int) (b4 : Slc) (w : World) (K : Value → World → Prop) : net_Net_Send t1 from2 to3 b4 w K = denF Tryd.prog callB Tryd.f9 (.two .none (.two (.one (.cut [(10, Sh.bool)] [11, 12, 13, 14, 15, 16, 17, 18, 19, 20] .none .none)) .none)) [(Value.pointer t1), (Value.int .i64 from2), (Value.int .i64 to3), (Slc.v b4)] w K := by kernel_rfl
theorem net_Net_Send_ok (t1 : Option Addr) (from2 : Int) (to3 : Int) (b4 : Slc) {w : World} {R : Ending → World → Prop} (h : net_Net_Send t1 from2 to3 b4 w fun v w' => R (.returned v) w') : Calls Tryd.prog fn_net_Net_Send ⟨[(Value.pointer t1), (Value.int .i64 from2), (Value.int .i64 to3), (Slc.v b4)]⟩ w R :=
  calls_of_den callB_ok mixed Tryd.func9 (net_Net_Send_eq t1 from2 to3 b4 w _ ▸ h)

/-- (*tidewater/net.Net).Deliver -/
def net_Net_Deliver (t1 : Option Addr) (number2 : Int) (w : World) (K : Value → World → Prop) : Prop :=
  newS w (.cells ⟨[(Value.int .i64 (0 : Int)), (Value.int .i64 (0 : Int)), (Value.int .i64 (0 : Int)), (Slc.v (⟨none, 0, 0⟩ : Slc))]⟩ 38) fun r3 w4 =>
  Calls Tryd.prog fn_net_Net_find ⟨[(Value.pointer t1), (Value.int .i64 number2)]⟩ w4 fun e5 w6 =>
  ∃ n7 : Int, e5 = .returned (Value.int .i64 n7) ∧
  BIf (decide (n7 < (0 : Int))) (
    ∃ v8 : Value, World.cell? (World.drew w6) (⟨gl_ErrNone, 0, none⟩ : Addr) = some v8 ∧
    canW (World.drew w6) (⟨r3, 0, none⟩ : Addr) 4 ∧ ∀ w9 : World, w9 = setCells (World.drew w6) (⟨r3, 0, none⟩ : Addr) 0 [(Value.int .i64 (0 : Int)), (Value.int .i64 (0 : Int)), (Value.int .i64 (0 : Int)), (Slc.v (⟨none, 0, 0⟩ : Slc))] →
    (∃ v10 : Value, World.cell? w9 (⟨gl_ErrNone, 0, none⟩ : Addr) = some v10 ∧
    v10 = v8) ∧
    ∃ n11 : Int, ∃ n12 : Int, ∃ n13 : Int, ∃ s14 : Slc, rowAt w9 (⟨r3, 0, none⟩ : Addr) 0 [(Value.int .i64 n11), (Value.int .i64 n12), (Value.int .i64 n13), (Slc.v s14)] ∧
    K (Value.tuple ⟨[(Value.agg ⟨[(Value.int .i64 n11), (Value.int .i64 n12), (Value.int .i64 n13), (Slc.v s14)]⟩), v8]⟩) w9) (
    needSome t1 fun a15 =>
    ∃ s16 : Slc, World.cell? (World.drew w6) (a15.add 1) = some (Slc.v s16) ∧
    needSome s16.p fun a17 =>
    0 ≤ n7 ∧ n7 < ((s16.l : Nat) : Int) ∧
    ∃ n18 : Int, World.cell? (World.drew w6) ((Addr.add a17 ((Int.toNat n7) * 4)).add 1) = some (Value.int .i64 n18) ∧
    needSome t1 fun a19 =>
    ∃ s20 : Slc, World.cell? (World.drew w6) (a19.add 1) = some (Slc.v s20) ∧
    needSome s20.p fun a21 =>
    0 ≤ n7 ∧ n7 < ((s20.l : Nat) : Int) ∧
    ∃ n22 : Int, World.cell? (World.drew w6) ((Addr.add a21 ((Int.toNat n7) * 4)).add 2) = some (Value.int .i64 n22) ∧
    Calls Tryd.prog fn_net_Net_Reach ⟨[(Value.pointer t1), (Value.int .i64 n18), (Value.int .i64 n22)]⟩ (World.drew w6) fun e23 w24 =>
    ∃ b25 : Bool, e23 = .returned (Value.bool b25) ∧
    BIf (!b25) (
      ∃ v26 : Value, World.cell? (World.drew w24) (⟨gl_ErrDown, 0, none⟩ : Addr) = some v26 ∧
      canW (World.drew w24) (⟨r3, 0, none⟩ : Addr) 4 ∧ ∀ w27 : World, w27 = setCells (World.drew w24) (⟨r3, 0, none⟩ : Addr) 0 [(Value.int .i64 (0 : Int)), (Value.int .i64 (0 : Int)), (Value.int .i64 (0 : Int)), (Slc.v (⟨none, 0, 0⟩ : Slc))] →
      (∃ v28 : Value, World.cell? w27 (⟨gl_ErrDown, 0, none⟩ : Addr) = some v28 ∧
      v28 = v26) ∧
      ∃ n29 : Int, ∃ n30 : Int, ∃ n31 : Int, ∃ s32 : Slc, rowAt w27 (⟨r3, 0, none⟩ : Addr) 0 [(Value.int .i64 n29), (Value.int .i64 n30), (Value.int .i64 n31), (Slc.v s32)] ∧
      K (Value.tuple ⟨[(Value.agg ⟨[(Value.int .i64 n29), (Value.int .i64 n30), (Value.int .i64 n31), (Slc.v s32)]⟩), v26]⟩) w27) (
      Calls Tryd.prog fn_net_Net_take ⟨[(Value.pointer t1), (Value.int .i64 n7)]⟩ w24 fun e33 w34 =>
      ∃ x35 : Int, ∃ x36 : Int, ∃ x37 : Int, ∃ x38 : Slc, e33 = .returned (Value.agg ⟨[(Value.int .i64 x35), (Value.int .i64 x36), (Value.int .i64 x37), (Slc.v x38)]⟩) ∧
      canW w34 (⟨r3, 0, none⟩ : Addr) 4 ∧ ∀ w39 : World, w39 = setCells w34 (⟨r3, 0, none⟩ : Addr) 0 [(Value.int .i64 x35), (Value.int .i64 x36), (Value.int .i64 x37), (Slc.v x38)] →
      ∃ n40 : Int, ∃ n41 : Int, ∃ n42 : Int, ∃ s43 : Slc, rowAt w39 (⟨r3, 0, none⟩ : Addr) 0 [(Value.int .i64 n40), (Value.int .i64 n41), (Value.int .i64 n42), (Slc.v s43)] ∧
      K (Value.tuple ⟨[(Value.agg ⟨[(Value.int .i64 n40), (Value.int .i64 n41), (Value.int .i64 n42), (Slc.v s43)]⟩), Value.nilIface]⟩) w39))

theorem net_Net_Deliver_eq (t1 : Option Addr) (number2 : Int) (w : World) (K : Value → World → Prop) : net_Net_Deliver t1 number2 w K = denF Tryd.prog callB Tryd.f10 .none [(Value.pointer t1), (Value.int .i64 number2)] w K := by kernel_rfl
theorem net_Net_Deliver_ok (t1 : Option Addr) (number2 : Int) {w : World} {R : Ending → World → Prop} (h : net_Net_Deliver t1 number2 w fun v w' => R (.returned v) w') : Calls Tryd.prog fn_net_Net_Deliver ⟨[(Value.pointer t1), (Value.int .i64 number2)]⟩ w R :=
  calls_of_den callB_ok mixed Tryd.func10 (net_Net_Deliver_eq t1 number2 w _ ▸ h)

/-- (*tidewater/net.Net).Drop -/
def net_Net_Drop (t1 : Option Addr) (number2 : Int) (w : World) (K : Value → World → Prop) : Prop :=
  Calls Tryd.prog fn_net_Net_find ⟨[(Value.pointer t1), (Value.int .i64 number2)]⟩ w fun e3 w4 =>
  ∃ n5 : Int, e3 = .returned (Value.int .i64 n5) ∧
  BIf (decide (n5 < (0 : Int))) (
    ∃ v6 : Value, World.cell? w4 (⟨gl_ErrNone, 0, none⟩ : Addr) = some v6 ∧
    K v6 w4) (
    Calls Tryd.prog fn_net_Net_take ⟨[(Value.pointer t1), (Value.int .i64 n5)]⟩ w4 fun e7 w8 =>
    ∃ x9 : Int, ∃ x10 : Int, ∃ x11 : Int, ∃ x12 : Slc, e7 = .returned (Value.agg ⟨[(Value.int .i64 x9), (Value.int .i64 x10), (Value.int .i64 x11), (Slc.v x12)]⟩) ∧
    K Value.nilIface w8)

theorem net_Net_Drop_eq (t1 : Option Addr) (number2 : Int) (w : World) (K : Value → World → Prop) : net_Net_Drop t1 number2 w K = denF Tryd.prog callB Tryd.f11 .none [(Value.pointer t1), (Value.int .i64 number2)] w K := by kernel_rfl
theorem net_Net_Drop_ok (t1 : Option Addr) (number2 : Int) {w : World} {R : Ending → World → Prop} (h : net_Net_Drop t1 number2 w fun v w' => R (.returned v) w') : Calls Tryd.prog fn_net_Net_Drop ⟨[(Value.pointer t1), (Value.int .i64 number2)]⟩ w R :=
  calls_of_den callB_ok mixed Tryd.func11 (net_Net_Drop_eq t1 number2 w _ ▸ h)

/-- (*tidewater/net.Net).Double -/
def net_Net_Double (t1 : Option Addr) (number2 : Int) (w : World) (K : Value → World → Prop) : Prop :=
  Calls Tryd.prog fn_net_Net_find ⟨[(Value.pointer t1), (Value.int .i64 number2)]⟩ w fun e3 w4 =>
  ∃ n5 : Int, e3 = .returned (Value.int .i64 n5) ∧
  BIf (decide (n5 < (0 : Int))) (
    ∃ v6 : Value, World.cell? (World.drew w4) (⟨gl_ErrNone, 0, none⟩ : Addr) = some v6 ∧
    K (Value.tuple ⟨[(Value.int .i64 (0 : Int)), v6]⟩) (World.drew w4)) (
    needSome t1 fun a7 =>
    ∃ s8 : Slc, World.cell? w4 (a7.add 1) = some (Slc.v s8) ∧
    needSome s8.p fun a9 =>
    0 ≤ n5 ∧ n5 < ((s8.l : Nat) : Int) ∧
    ∃ n10 : Int, ∃ n11 : Int, ∃ n12 : Int, ∃ s13 : Slc, rowAt w4 (Addr.add a9 ((Int.toNat n5) * 4)) 0 [(Value.int .i64 n10), (Value.int .i64 n11), (Value.int .i64 n12), (Slc.v s13)] ∧
    Calls Tryd.prog fn_net_Net_put ⟨[(Value.pointer t1), (Value.agg ⟨[(Value.int .i64 n10), (Value.int .i64 n11), (Value.int .i64 n12), (Slc.v s13)]⟩)]⟩ w4 fun e14 w15 =>
    ∃ n16 : Int, ∃ e17 : Value, e14 = .returned (Value.tuple ⟨[(Value.int .i64 n16), e17]⟩) ∧
    K (Value.tuple ⟨[(Value.int .i64 n16), e17]⟩) w15)

theorem net_Net_Double_eq (t1 : Option Addr) (number2 : Int) (w : World) (K : Value → World → Prop) : net_Net_Double t1 number2 w K = denF Tryd.prog callB Tryd.f12 .none [(Value.pointer t1), (Value.int .i64 number2)] w K := by kernel_rfl
theorem net_Net_Double_ok (t1 : Option Addr) (number2 : Int) {w : World} {R : Ending → World → Prop} (h : net_Net_Double t1 number2 w fun v w' => R (.returned v) w') : Calls Tryd.prog fn_net_Net_Double ⟨[(Value.pointer t1), (Value.int .i64 number2)]⟩ w R :=
  calls_of_den callB_ok mixed Tryd.func12 (net_Net_Double_eq t1 number2 w _ ▸ h)

/-- (*tidewater/net.Net).Waiting -/
def net_Net_Waiting (t1 : Option Addr) (w : World) (K : Value → World → Prop) : Prop :=
  needSome t1 fun a2 =>
  ∃ s3 : Slc, World.cell? w (a2.add 1) = some (Slc.v s3) ∧
  Calls Tryd.prog fn_slices_Clone_Message ⟨[(Slc.v s3)]⟩ w fun e4 w5 =>
  ∃ s6 : Slc, e4 = .returned (Slc.v s6) ∧
  ∃ (I7 : (Int) → World → Prop) (mu8 : (Int) → World → Nat), I7 ((0 : Int)) w5 ∧ (
  ∀ i9 : Int, ∀ w10 : World, I7 i9 w10 → ∀ u11 u12 u13 u14 u15 u16 u17 u18 u19 u20 u21 u22 u23 u24 : Value,
    BIf (decide (i9 < ((s6.l : Nat) : Int))) (
      needSome s6.p fun a25 =>
      0 ≤ i9 ∧ i9 < ((s6.l : Nat) : Int) ∧
      ∃ s26 : Slc, World.cell? w10 ((Addr.add a25 ((Int.toNat i9) * 4)).add 3) = some (Slc.v s26) ∧
      Calls Tryd.prog fn_slices_Clone_byte ⟨[(Slc.v s26)]⟩ w10 fun e27 w28 =>
      ∃ s29 : Slc, e27 = .returned (Slc.v s29) ∧
      needSome s6.p fun a30 =>
      0 ≤ i9 ∧ i9 < ((s6.l : Nat) : Int) ∧
      canW w28 ((Addr.add a30 ((Int.toNat i9) * 4)).add 3) 1 ∧ ∀ w31 : World, w31 = World.setCell w28 ((Addr.add a30 ((Int.toNat i9) * 4)).add 3) (Slc.v s29) →
      inR .i64 (i9 + (1 : Int)) ∧
      (I7 ((i9 + (1 : Int))) w31 ∧ mu8 ((i9 + (1 : Int))) w31 < mu8 i9 w10)) (
      K (Slc.v s6) w10))

theorem net_Net_Waiting_eq (t1 : Option Addr) (w : World) (K : Value → World → Prop) : net_Net_Waiting t1 w K = denF Tryd.prog callB Tryd.f13 (.two .none (.two .none (.two (.two .none (.one (.loop [(12, (Sh.int .i64))] [4, 13, 14, 15, 16, 17, 18, 19, 20, 21, 22, 23, 24, 25] .none))) .none))) [(Value.pointer t1)] w K := by kernel_rfl
theorem net_Net_Waiting_ok (t1 : Option Addr) {w : World} {R : Ending → World → Prop} (h : net_Net_Waiting t1 w fun v w' => R (.returned v) w') : Calls Tryd.prog fn_net_Net_Waiting ⟨[(Value.pointer t1)]⟩ w R :=
  calls_of_den callB_ok mixed Tryd.func13 (net_Net_Waiting_eq t1 w _ ▸ h)

/-- (*tidewater/net.Net).First$1 -/
def net_Net_First_1 (m1 : Int) (m2 : Int) (m3 : Int) (m4 : Slc) (cap5 : Option Addr) (cap6 : Option Addr) (w : World) (K : Value → World → Prop) : Prop :=
  newS w (.cells ⟨[(Value.int .i64 m1), (Value.int .i64 m2), (Value.int .i64 m3), (Slc.v m4)]⟩ 38) fun r7 w8 =>
  ∃ n9 : Int, World.cell? w8 (⟨r7, 2, none⟩ : Addr) = some (Value.int .i64 n9) ∧
  needSome cap5 fun a10 =>
  ∃ n11 : Int, World.cell? w8 a10 = some (Value.int .i64 n11) ∧
  BIf (decide (n9 = n11)) (
    needSome cap6 fun a12 =>
    ∃ p13 : Option Addr, World.cell? w8 a12 = some (Value.pointer p13) ∧
    ∃ n14 : Int, World.cell? w8 (⟨r7, 1, none⟩ : Addr) = some (Value.int .i64 n14) ∧
    ∃ n15 : Int, World.cell? w8 (⟨r7, 2, none⟩ : Addr) = some (Value.int .i64 n15) ∧
    Calls Tryd.prog fn_net_Net_Reach ⟨[(Value.pointer p13), (Value.int .i64 n14), (Value.int .i64 n15)]⟩ w8 fun e16 w17 =>
    ∃ b18 : Bool, e16 = .returned (Value.bool b18) ∧
    K (Value.bool b18) w17) (
    K (Value.bool false) w8)

theorem net_Net_First_1_eq (m1 : Int) (m2 : Int) (m3 : Int) (m4 : Slc) (cap5 : Option Addr) (cap6 : Option Addr) (w : World) (K : Value → World → Prop) : net_Net_First_1 m1 m2 m3 m4 cap5 cap6 w K = denF Tryd.prog callB Tryd.f39 .none [(Value.agg ⟨[(Value.int .i64 m1), (Value.int .i64 m2), (Value.int .i64 m3), (Slc.v m4)]⟩), (Value.pointer cap5), (Value.pointer cap6)] w K := by kernel_rfl
theorem net_Net_First_1_ok (m1 : Int) (m2 : Int) (m3 : Int) (m4 : Slc) (cap5 : Option Addr) (cap6 : Option Addr) {w : World} {R : Ending → World → Prop} (h : net_Net_First_1 m1 m2 m3 m4 cap5 cap6 w fun v w' => R (.returned v) w') : Calls Tryd.prog fn_net_Net_First_1 ⟨[(Value.agg ⟨[(Value.int .i64 m1), (Value.int .i64 m2), (Value.int .i64 m3), (Slc.v m4)]⟩), (Value.pointer cap5), (Value.pointer cap6)]⟩ w R :=
  calls_of_den callB_ok mixed Tryd.func39 (net_Net_First_1_eq m1 m2 m3 m4 cap5 cap6 w _ ▸ h)

/-- slices.IndexFunc[[]tidewater/net.Message,tidewater/net.Message] -/
def slices_IndexFunc_Message_net_Net_First_1 (s1 : Slc) (c2 : Option Addr) (c3 : Option Addr) (w : World) (K : Value → World → Prop) : Prop :=
  ∃ (I4 : (Int) → World → Prop) (mu5 : (Int) → World → Nat), I4 ((0 : Int)) w ∧ (
  ∀ i6 : Int, ∀ w7 : World, I4 i6 w7 → ∀ u8 u9 u10 u11 u12 u13 u14 u15 u16 u17 u18 u19 : Value,
    BIf (decide (i6 < ((s1.l : Nat) : Int))) (
      needSome s1.p fun a20 =>
      0 ≤ i6 ∧ i6 < ((s1.l : Nat) : Int) ∧
      ∃ n21 : Int, ∃ n22 : Int, ∃ n23 : Int, ∃ s24 : Slc, rowAt w7 (Addr.add a20 ((Int.toNat i6) * 4)) 0 [(Value.int .i64 n21), (Value.int .i64 n22), (Value.int .i64 n23), (Slc.v s24)] ∧
      Calls Tryd.prog fn_net_Net_First_1 ⟨[(Value.agg ⟨[(Value.int .i64 n21), (Value.int .i64 n22), (Value.int .i64 n23), (Slc.v s24)]⟩), (Value.pointer c2), (Value.pointer c3)]⟩ w7 fun e25 w26 =>
      ∃ b27 : Bool, e25 = .returned (Value.bool b27) ∧
      BIf b27 (
        K (Value.int .i64 i6) w26) (
        inR .i64 (i6 + (1 : Int)) ∧
        (I4 ((i6 + (1 : Int))) w26 ∧ mu5 ((i6 + (1 : Int))) w26 < mu5 i6 w7))) (
      K (Value.int .i64 (-1 : Int)) w7))

theorem slices_IndexFunc_Message_net_Net_First_1_eq (s1 : Slc) (c2 : Option Addr) (c3 : Option Addr) (w : World) (K : Value → World → Prop) : slices_IndexFunc_Message_net_Net_First_1 s1 c2 c3 w K = denF Tryd.prog callB Tryd.f38 (.two .none (.two (.two .none (.one (.loop [(8, (Sh.int .i64))] [4, 5, 9, 10, 11, 12, 13, 14, 15, 16, 17, 18] .none))) .none)) [(Slc.v s1), (Value.func (.func 39) ⟨[]⟩ ⟨[(Value.pointer c2), (Value.pointer c3)]⟩)] w K := by kernel_rfl
theorem slices_IndexFunc_Message_net_Net_First_1_ok (s1 : Slc) (c2 : Option Addr) (c3 : Option Addr) {w : World} {R : Ending → World → Prop} (h : slices_IndexFunc_Message_net_Net_First_1 s1 c2 c3 w fun v w' => R (.returned v) w') : Calls Tryd.prog fn_slices_IndexFunc_Message ⟨[(Slc.v s1), (Value.func (.func 39) ⟨[]⟩ ⟨[(Value.pointer c2), (Value.pointer c3)]⟩)]⟩ w R :=
  calls_of_den callB_ok mixed Tryd.func38 (slices_IndexFunc_Message_net_Net_First_1_eq s1 c2 c3 w _ ▸ h)

/-- (*tidewater/net.Net).First -/
def net_Net_First (t1 : Option Addr) (to2 : Int) (w : World) (K : Value → World → Prop) : Prop :=
  newS w (.cells ⟨[(Value.pointer t1)]⟩ 25) fun r3 w4 =>
  newS w4 (.cells ⟨[(Value.int .i64 to2)]⟩ 3) fun r5 w6 =>
  ∃ p7 : Option Addr, World.cell? w6 (⟨r3, 0, none⟩ : Addr) = some (Value.pointer p7) ∧
  needSome p7 fun a8 =>
  ∃ s9 : Slc, World.cell? w6 (a8.add 1) = some (Slc.v s9) ∧
  Calls Tryd.prog fn_slices_IndexFunc_Message ⟨[(Slc.v s9), (Value.func (.func 39) ⟨[]⟩ ⟨[(Value.pointer (some (⟨r5, 0, none⟩ : Addr))), (Value.pointer (some (⟨r3, 0, none⟩ : Addr)))]⟩)]⟩ w6 fun e10 w11 =>
  ∃ n12 : Int, e10 = .returned (Value.int .i64 n12) ∧
  BIf (decide (n12 < (0 : Int))) (
    K (Value.int .i64 (-1 : Int)) w11) (
    ∃ p13 : Option Addr, World.cell? w11 (⟨r3, 0, none⟩ : Addr) = some (Value.pointer p13) ∧
    needSome p13 fun a14 =>
    ∃ s15 : Slc, World.cell? w11 (a14.add 1) = some (Slc.v s15) ∧
    needSome s15.p fun a16 =>
    0 ≤ n12 ∧ n12 < ((s15.l : Nat) : Int) ∧
    ∃ n17 : Int, World.cell? w11 (Addr.add a16 ((Int.toNat n12) * 4)) = some (Value.int .i64 n17) ∧
    K (Value.int .i64 n17) w11)

theorem net_Net_First_eq (t1 : Option Addr) (to2 : Int) (w : World) (K : Value → World → Prop) : net_Net_First t1 to2 w K = denF Tryd.prog callB Tryd.f20 .none [(Value.pointer t1), (Value.int .i64 to2)] w K := by kernel_rfl
theorem net_Net_First_ok (t1 : Option Addr) (to2 : Int) {w : World} {R : Ending → World → Prop} (h : net_Net_First t1 to2 w fun v w' => R (.returned v) w') : Calls Tryd.prog fn_net_Net_First ⟨[(Value.pointer t1), (Value.int .i64 to2)]⟩ w R :=
  calls_of_den callB_ok mixed Tryd.func20 (net_Net_First_eq t1 to2 w _ ▸ h)

/-- slices.Index[[]int,int] -/
def slices_Index_int (s1 : Slc) (v2 : Int) (w : World) (K : Value → World → Prop) : Prop :=
  ∃ (I3 : (Int) → World → Prop) (mu4 : (Int) → World → Nat), I3 ((0 : Int)) w ∧ (
  ∀ i5 : Int, ∀ w6 : World, I3 i5 w6 → ∀ u7 u8 u9 u10 u11 u12 u13 u14 u15 u16 u17 u18 : Value,
    BIf (decide (i5 < ((s1.l : Nat) : Int))) (
      needSome s1.p fun a19 =>
      0 ≤ i5 ∧ i5 < ((s1.l : Nat) : Int) ∧
      ∃ n20 : Int, World.cell? w6 (Addr.add a19 ((Int.toNat i5) * 1)) = some (Value.int .i64 n20) ∧
      BIf (decide (v2 = n20)) (
        K (Value.int .i64 i5) w6) (
        inR .i64 (i5 + (1 : Int)) ∧
        (I3 ((i5 + (1 : Int))) w6 ∧ mu4 ((i5 + (1 : Int))) w6 < mu4 i5 w6))) (
      K (Value.int .i64 (-1 : Int)) w6))

theorem slices_Index_int_eq (s1 : Slc) (v2 : Int) (w : World) (K : Value → World → Prop) : slices_Index_int s1 v2 w K = denF Tryd.prog callB Tryd.f51 (.two .none (.two (.two .none (.one (.loop [(8, (Sh.int .i64))] [4, 5, 9, 10, 11, 12, 13, 14, 15, 16, 17, 18] .none))) .none)) [(Slc.v s1), (Value.int .i64 v2)] w K := by kernel_rfl
theorem slices_Index_int_ok (s1 : Slc) (v2 : Int) {w : World} {R : Ending → World → Prop} (h : slices_Index_int s1 v2 w fun v w' => R (.returned v) w') : Calls Tryd.prog fn_slices_Index_int ⟨[(Slc.v s1), (Value.int .i64 v2)]⟩ w R :=
  calls_of_den callB_ok mixed Tryd.func51 (slices_Index_int_eq s1 v2 w _ ▸ h)

/-- slices.Contains[[]int,int] -/
def slices_Contains_int (s1 : Slc) (v2 : Int) (w : World) (K : Value → World → Prop) : Prop :=
  Calls Tryd.prog fn_slices_Index_int ⟨[(Slc.v s1), (Value.int .i64 v2)]⟩ w fun e3 w4 =>
  ∃ n5 : Int, e3 = .returned (Value.int .i64 n5) ∧
  K (Value.bool (decide ((0 : Int) ≤ n5))) w4

theorem slices_Contains_int_eq (s1 : Slc) (v2 : Int) (w : World) (K : Value → World → Prop) : slices_Contains_int s1 v2 w K = denF Tryd.prog callB Tryd.f48 .none [(Slc.v s1), (Value.int .i64 v2)] w K := by kernel_rfl
theorem slices_Contains_int_ok (s1 : Slc) (v2 : Int) {w : World} {R : Ending → World → Prop} (h : slices_Contains_int s1 v2 w fun v w' => R (.returned v) w') : Calls Tryd.prog fn_slices_Contains_int ⟨[(Slc.v s1), (Value.int .i64 v2)]⟩ w R :=
  calls_of_den callB_ok mixed Tryd.func48 (slices_Contains_int_eq s1 v2 w _ ▸ h)

/-- (*tidewater/net.Net).Part -/
def net_Net_Part (t1 : Option Addr) (other2 : Slc) (w : World) (K : Value → World → Prop) : Prop :=
  needSome t1 fun a3 =>
  ∃ s4 : Slc, World.cell? w a3 = some (Slc.v s4) ∧
  ∃ (I5 : (Int) → World → Prop) (mu6 : (Int) → World → Nat), I5 ((0 : Int)) w ∧ (
  ∀ i7 : Int, ∀ w8 : World, I5 i7 w8 → ∀ u9 u10 u11 u12 u13 u14 u15 u16 u17 u18 u19 u20 u21 u22 : Value,
    BIf (decide (i7 < ((s4.l : Nat) : Int))) (
      needSome t1 fun a23 =>
      ∃ s24 : Slc, World.cell? (World.drew w8) a23 = some (Slc.v s24) ∧
      Calls Tryd.prog fn_slices_Contains_int ⟨[(Slc.v other2), (Value.int .i64 i7)]⟩ (World.drew w8) fun e25 w26 =>
      ∃ b27 : Bool, e25 = .returned (Value.bool b27) ∧
      (∃ s28 : Slc, World.cell? w26 a23 = some (Slc.v s28) ∧
      (Slc.v s28) = (Slc.v s24)) ∧
      needSome s24.p fun a29 =>
      0 ≤ i7 ∧ i7 < ((s24.l : Nat) : Int) ∧
      canW w26 ((Addr.add a29 ((Int.toNat i7) * 2)).add 1) 1 ∧ ∀ w30 : World, w30 = World.setCell w26 ((Addr.add a29 ((Int.toNat i7) * 2)).add 1) (Value.bool b27) →
      inR .i64 (i7 + (1 : Int)) ∧
      (I5 ((i7 + (1 : Int))) w30 ∧ mu6 ((i7 + (1 : Int))) w30 < mu6 i7 w8)) (
      K (Value.tuple #[]) w8))

theorem net_Net_Part_eq (t1 : Option Addr) (other2 : Slc) (w : World) (K : Value → World → Prop) : net_Net_Part t1 other2 w K = denF Tryd.prog callB Tryd.f34 (.two .none (.one (.loop [(10, (Sh.int .i64))] [4, 11, 12, 13, 14, 15, 16, 17, 18, 19, 20, 21, 22, 23] .none))) [(Value.pointer t1), (Slc.v other2)] w K := by kernel_rfl
theorem net_Net_Part_ok (t1 : Option Addr) (other2 : Slc) {w : World} {R : Ending → World → Prop} (h : net_Net_Part t1 other2 w fun v w' => R (.returned v) w') : Calls Tryd.prog fn_net_Net_Part ⟨[(Value.pointer t1), (Slc.v other2)]⟩ w R :=
  calls_of_den callB_ok mixed Tryd.func34 (net_Net_Part_eq t1 other2 w _ ▸ h)

/-- (*tidewater/net.Net).Join -/
def net_Net_Join (t1 : Option Addr) (w : World) (K : Value → World → Prop) : Prop :=
  Calls Tryd.prog fn_net_Net_Part ⟨[(Value.pointer t1), (Slc.v (⟨none, 0, 0⟩ : Slc))]⟩ w fun e2 w3 =>
  e2 = .returned (Value.tuple #[]) ∧
  K (Value.tuple #[]) w3

theorem net_Net_Join_eq (t1 : Option Addr) (w : World) (K : Value → World → Prop) : net_Net_Join t1 w K = denF Tryd.prog callB Tryd.f18 .none [(Value.pointer t1)] w K := by kernel_rfl
theorem net_Net_Join_ok (t1 : Option Addr) {w : World} {R : Ending → World → Prop} (h : net_Net_Join t1 w fun v w' => R (.returned v) w') : Calls Tryd.prog fn_net_Net_Join ⟨[(Value.pointer t1)]⟩ w R :=
  calls_of_den callB_ok mixed Tryd.func18 (net_Net_Join_eq t1 w _ ▸ h)

/-- (*tidewater/net.Net).Set -/
def net_Net_Set (t1 : Option Addr) (i2 : Int) (up3 : Bool) (w : World) (K : Value → World → Prop) : Prop :=
  Calls Tryd.prog fn_net_Net_has ⟨[(Value.pointer t1), (Value.int .i64 i2)]⟩ w fun e4 w5 =>
  ∃ b6 : Bool, e4 = .returned (Value.bool b6) ∧
  BIf b6 (
    needSome t1 fun a7 =>
    ∃ s8 : Slc, World.cell? w5 a7 = some (Slc.v s8) ∧
    needSome s8.p fun a9 =>
    0 ≤ i2 ∧ i2 < ((s8.l : Nat) : Int) ∧
    canW w5 (Addr.add a9 ((Int.toNat i2) * 2)) 1 ∧ ∀ w10 : World, w10 = World.setCell w5 (Addr.add a9 ((Int.toNat i2) * 2)) (Value.bool up3) →
    K (Value.tuple #[]) w10) (
    K (Value.tuple #[]) w5)

theorem net_Net_Set_eq (t1 : Option Addr) (i2 : Int) (up3 : Bool) (w : World) (K : Value → World → Prop) : net_Net_Set t1 i2 up3 w K = denF Tryd.prog callB Tryd.f19 .none [(Value.pointer t1), (Value.int .i64 i2), (Value.bool up3)] w K := by kernel_rfl
theorem net_Net_Set_ok (t1 : Option Addr) (i2 : Int) (up3 : Bool) {w : World} {R : Ending → World → Prop} (h : net_Net_Set t1 i2 up3 w fun v w' => R (.returned v) w') : Calls Tryd.prog fn_net_Net_Set ⟨[(Value.pointer t1), (Value.int .i64 i2), (Value.bool up3)]⟩ w R :=
  calls_of_den callB_ok mixed Tryd.func19 (net_Net_Set_eq t1 i2 up3 w _ ▸ h)

end Go.D
