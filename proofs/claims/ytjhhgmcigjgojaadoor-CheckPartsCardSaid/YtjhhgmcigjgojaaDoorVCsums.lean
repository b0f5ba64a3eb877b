/-
  WHAT IS PROVED: verification conditions of functions of this program, each with its soundness. No further conditions.
-/
import Derived.Test.YtjhhgmcigjgojaaDoorBase
set_option linter.unusedSimpArgs false
set_option maxRecDepth 100000
set_option linter.unusedVariables false
namespace Go.D
open Go Go.Proofs
/-- tidewater/sums.step -/
def sums_step (s1 : Int) (c2 : Int) (w : World) (K : Value → World → Prop) : Prop :=
  inR .u32 c2 ∧
  0 ≤ s1 ∧ 0 ≤ c2 ∧ inR .u32 s1 ∧ inR .u32 c2 ∧
  ∃ (I3 : (Int) → (Int) → World → Prop) (mu4 : (Int) → (Int) → World → Nat), I3 ((bitsI .xor s1 c2)) ((0 : Int)) w ∧ (
  ∀ s5 : Int, ∀ i6 : Int, ∀ w7 : World, I3 s5 i6 w7 → ∀ u8 u9 u10 u11 u12 u13 u14 u15 u16 u17 u18 : Value,
    BIf (decide (i6 < (8 : Int))) (
      0 ≤ s5 ∧ 0 ≤ (1 : Int) ∧ inR .u32 s5 ∧ inR .u32 (1 : Int) ∧
      0 ≤ (1 : Int) ∧ 0 ≤ s5 ∧
      BIf (decide ((bitsI .and s5 (1 : Int)) = (1 : Int))) (
        0 ≤ (s5 / 2) ∧ 0 ≤ (3988292384 : Int) ∧ inR .u32 (s5 / 2) ∧ inR .u32 (3988292384 : Int) ∧
        inR .i64 (i6 + (1 : Int)) ∧
        (I3 ((bitsI .xor (s5 / 2) (3988292384 : Int))) ((i6 + (1 : Int))) w7 ∧ mu4 ((bitsI .xor (s5 / 2) (3988292384 : Int))) ((i6 + (1 : Int))) w7 < mu4 s5 i6 w7)) (
        inR .i64 (i6 + (1 : Int)) ∧
        (I3 ((s5 / 2)) ((i6 + (1 : Int))) w7 ∧ mu4 ((s5 / 2)) ((i6 + (1 : Int))) w7 < mu4 s5 i6 w7))) (
      K (Value.int .u32 s5) w7))

theorem sums_step_eq (s1 : Int) (c2 : Int) (w : World) (K : Value → World → Prop) : sums_step s1 c2 w K = denF Tryd.prog callB Tryd.f27 (.two .none (.two .none (.two (.two .none (.one (.loop [(0, (Sh.int .u32)), (10, (Sh.int .i64))] [5, 11, 12, 13, 14, 15, 16, 17, 18, 19, 20] .none))) .none))) [(Value.int .u32 s1), (Value.int .u8 c2)] w K := by kernel_rfl
theorem sums_step_ok (s1 : Int) (c2 : Int) {w : World} {R : Ending → World → Prop} (h : sums_step s1 c2 w fun v w' => R (.returned v) w') : Calls Tryd.prog fn_sums_step ⟨[(Value.int .u32 s1), (Value.int .u8 c2)]⟩ w R :=
  calls_of_den callB_ok mixed Tryd.func27 (sums_step_eq s1 c2 w _ ▸ h)

/-- tidewater/sums.Sum -/
def sums_Sum (parts1 : Slc) (w : World) (K : Value → World → Prop) : Prop :=
  ∃ (I2 : (Int) → (Int) → World → Prop) (mu3 : (Int) → (Int) → World → Nat), I2 ((4294967295 : Int)) ((0 : Int)) w ∧ (
  ∀ s4 : Int, ∀ i5 : Int, ∀ w6 : World, I2 s4 i5 w6 → ∀ u7 u8 u9 u10 u11 u12 u13 u14 u15 u16 u17 u18 u19 u20 u21 u22 : Value,
    BIf (decide (i5 < ((parts1.l : Nat) : Int))) (
      needSome parts1.p fun a23 =>
      0 ≤ i5 ∧ i5 < ((parts1.l : Nat) : Int) ∧
      ∃ s24 : Slc, World.cell? w6 (Addr.add a23 ((Int.toNat i5) * 1)) = some (Slc.v s24) ∧
      ∃ (I25 : (Int) → (Int) → World → Prop) (mu26 : (Int) → (Int) → World → Nat), I25 (s4) ((0 : Int)) w6 ∧ (
      ∀ s27 : Int, ∀ i28 : Int, ∀ w29 : World, I25 s27 i28 w29 → ∀ u30 u31 u32 u33 u34 u35 u36 u37 : Value,
        BIf (decide (i28 < ((s24.l : Nat) : Int))) (
          needSome s24.p fun a38 =>
          0 ≤ i28 ∧ i28 < ((s24.l : Nat) : Int) ∧
          ∃ n39 : Int, World.cell? w29 (Addr.add a38 ((Int.toNat i28) * 1)) = some (Value.int .u8 n39) ∧
          Calls Tryd.prog fn_sums_step ⟨[(Value.int .u32 s27), (Value.int .u8 n39)]⟩ w29 fun e40 w41 =>
          ∃ n42 : Int, e40 = .returned (Value.int .u32 n42) ∧
          inR .i64 (i28 + (1 : Int)) ∧
          (I25 (n42) ((i28 + (1 : Int))) w41 ∧ mu26 (n42) ((i28 + (1 : Int))) w41 < mu26 s27 i28 w29)) (
          inR .i64 (i5 + (1 : Int)) ∧
          (I2 (s27) ((i5 + (1 : Int))) w29 ∧ mu3 (s27) ((i5 + (1 : Int))) w29 < mu3 s4 i5 w6)))) (
      0 ≤ s4 ∧ inR .u32 s4 ∧
      K (Value.int .u32 (bitsI .xor (IntKind.max .u32) s4)) w6))

theorem sums_Sum_eq (parts1 : Slc) (w : World) (K : Value → World → Prop) : sums_Sum parts1 w K = denF Tryd.prog callB Tryd.f19 (.two .none (.two .none (.two (.two .none (.one (.loop [(3, (Sh.int .u32)), (10, (Sh.int .i64))] [5, 7, 11, 12, 13, 14, 15, 16, 17, 18, 19, 20, 21, 22, 23, 24] (.two .none (.two .none (.two (.one (.two .none (.two .none (.one (.loop [(3, (Sh.int .u32)), (16, (Sh.int .i64))] [7, 17, 18, 19, 20, 21, 22, 23] .none))))) .none)))))) .none))) [(Slc.v parts1)] w K := by kernel_rfl
theorem sums_Sum_ok (parts1 : Slc) {w : World} {R : Ending → World → Prop} (h : sums_Sum parts1 w fun v w' => R (.returned v) w') : Calls Tryd.prog fn_sums_Sum ⟨[(Slc.v parts1)]⟩ w R :=
  calls_of_den callB_ok mixed Tryd.func19 (sums_Sum_eq parts1 w _ ▸ h)

/-- tidewater/tidewaterref01.Sum -/
def tidewaterref01_Sum (b1 : Slc) (w : World) (K : Value → World → Prop) : Prop :=
  ∃ (I2 : (Int) → (Int) → World → Prop) (mu3 : (Int) → (Int) → World → Nat), I2 ((4294967295 : Int)) ((0 : Int)) w ∧ (
  ∀ rest4 : Int, ∀ i5 : Int, ∀ w6 : World, I2 rest4 i5 w6 → ∀ u7 u8 u9 u10 u11 u12 u13 u14 u15 u16 u17 u18 u19 u20 u21 u22 u23 u24 u25 u26 u27 u28 u29 u30 u31 u32 : Value,
    BIf (decide (i5 < ((b1.l : Nat) : Int))) (
      needSome b1.p fun a33 =>
      0 ≤ i5 ∧ i5 < ((b1.l : Nat) : Int) ∧
      ∃ n34 : Int, World.cell? w6 (Addr.add a33 ((Int.toNat i5) * 1)) = some (Value.int .u8 n34) ∧
      ∃ (I35 : (Int) → (Int) → World → Prop) (mu36 : (Int) → (Int) → World → Nat), I35 (rest4) ((0 : Int)) w6 ∧ (
      ∀ rest37 : Int, ∀ i38 : Int, ∀ w39 : World, I35 rest37 i38 w39 → ∀ u40 u41 u42 u43 u44 u45 u46 u47 u48 u49 u50 u51 u52 u53 u54 u55 u56 u57 u58 u59 : Value,
        BIf (decide (i38 < (8 : Int))) (
          inR .u32 n34 ∧
          0 ≤ (IntKind.wrap .u64 i38) ∧ 0 ≤ n34 ∧
          0 ≤ (n34 / ((2 ^ min (Int.toNat (IntKind.wrap .u64 i38)) 32 : Nat) : Int)) ∧ 0 ≤ (1 : Int) ∧ inR .u32 (n34 / ((2 ^ min (Int.toNat (IntKind.wrap .u64 i38)) 32 : Nat) : Int)) ∧ inR .u32 (1 : Int) ∧
          0 ≤ rest37 ∧ 0 ≤ (1 : Int) ∧ inR .u32 rest37 ∧ inR .u32 (1 : Int) ∧
          BIf (!decide ((bitsI .and rest37 (1 : Int)) = (bitsI .and (n34 / ((2 ^ min (Int.toNat (IntKind.wrap .u64 i38)) 32 : Nat) : Int)) (1 : Int)))) (
            0 ≤ (1 : Int) ∧ 0 ≤ rest37 ∧
            0 ≤ (rest37 / 2) ∧ 0 ≤ (3988292384 : Int) ∧ inR .u32 (rest37 / 2) ∧ inR .u32 (3988292384 : Int) ∧
            inR .i64 (i38 + (1 : Int)) ∧
            (I35 ((bitsI .xor (rest37 / 2) (3988292384 : Int))) ((i38 + (1 : Int))) w39 ∧ mu36 ((bitsI .xor (rest37 / 2) (3988292384 : Int))) ((i38 + (1 : Int))) w39 < mu36 rest37 i38 w39)) (
            0 ≤ (1 : Int) ∧ 0 ≤ rest37 ∧
            inR .i64 (i38 + (1 : Int)) ∧
            (I35 ((rest37 / 2)) ((i38 + (1 : Int))) w39 ∧ mu36 ((rest37 / 2)) ((i38 + (1 : Int))) w39 < mu36 rest37 i38 w39))) (
          inR .i64 (i5 + (1 : Int)) ∧
          (I2 (rest37) ((i5 + (1 : Int))) w39 ∧ mu3 (rest37) ((i5 + (1 : Int))) w39 < mu3 rest4 i5 w6)))) (
      0 ≤ rest4 ∧ 0 ≤ (4294967295 : Int) ∧ inR .u32 rest4 ∧ inR .u32 (4294967295 : Int) ∧
      K (Value.int .u32 (bitsI .xor rest4 (4294967295 : Int))) w6))

theorem tidewaterref01_Sum_eq (b1 : Slc) (w : World) (K : Value → World → Prop) : tidewaterref01_Sum b1 w K = denF Tryd.prog callB Tryd.f20 (.two .none (.two .none (.two (.two .none (.one (.loop [(3, (Sh.int .u32)), (10, (Sh.int .i64))] [5, 6, 7, 11, 12, 13, 14, 15, 16, 17, 18, 19, 20, 21, 22, 23, 24, 25, 26, 27, 28, 29, 30, 31, 32, 33] (.two .none (.two .none (.two (.one (.two .none (.two .none (.one (.loop [(3, (Sh.int .u32)), (6, (Sh.int .i64))] [7, 14, 15, 16, 17, 18, 19, 20, 21, 22, 23, 24, 25, 26, 27, 28, 29, 30, 31, 32] .none))))) .none)))))) .none))) [(Slc.v b1)] w K := by kernel_rfl
theorem tidewaterref01_Sum_ok (b1 : Slc) {w : World} {R : Ending → World → Prop} (h : tidewaterref01_Sum b1 w fun v w' => R (.returned v) w') : Calls Tryd.prog fn_tidewaterref01_Sum ⟨[(Slc.v b1)]⟩ w R :=
  calls_of_den callB_ok mixed Tryd.func20 (tidewaterref01_Sum_eq b1 w _ ▸ h)

/-- slices.Clone[[]byte,byte] -/
def slices_Clone_byte (s1 : Slc) (w : World) (K : Value → World → Prop) : Prop :=
  BIf (Option.isNone (s1.p : Option Addr)) (
    K (Slc.v (⟨none, 0, 0⟩ : Slc)) w) (
    newS w (.cells ⟨[]⟩ 5) fun r2 w3 =>
    appendS 1 5 [(Value.int .u8 (0 : Int))] w3 (⟨(some (⟨r2, 0, none⟩ : Addr)), 0, 0⟩ : Slc) (.slc s1) fun s4 w5 =>
    K (Slc.v s4) w5)

theorem slices_Clone_byte_eq (s1 : Slc) (w : World) (K : Value → World → Prop) : slices_Clone_byte s1 w K = denF Tryd.prog callB Tryd.f13 .none [(Slc.v s1)] w K := by kernel_rfl
theorem slices_Clone_byte_ok (s1 : Slc) {w : World} {R : Ending → World → Prop} (h : slices_Clone_byte s1 w fun v w' => R (.returned v) w') : Calls Tryd.prog fn_slices_Clone_byte ⟨[(Slc.v s1)]⟩ w R :=
  calls_of_den callB_ok mixed Tryd.func13 (slices_Clone_byte_eq s1 w _ ▸ h)

end Go.D
