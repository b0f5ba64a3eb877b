/-
  WHAT IS PROVED: verification conditions of functions of this program, each with its soundness. No further conditions.
-/
import Derived.Test.YtpnchpkklamnnaaDoorBase
set_option linter.unusedSimpArgs false
set_option maxRecDepth 100000
set_option linter.unusedVariables false
namespace Go.D
open Go Go.Proofs
/-- tidewater/sums.step -/
def sums_step (s1 : Int) (c2 : Int) (w : World) (K : Value → World → Prop) : Prop :=
  inR .u32 c2 ∧
  0 ≤ s1 ∧ 0 ≤ c2 ∧ inR .u32 s1 ∧ inR .u32 c2 ∧
  ∃ (I3 : (Int) → (Int) → World → Prop) (mu4 : (Int) → (Int) → World → Nat), I3 ((bitsI .xor s1 c2)) ((0 : Int)) w ∧ (
  ∀ s5 : Int, ∀ i6 : Int, ∀ w7 : World, I3 s5 i6 w7 → ∀ u8 u9 u10 u11 u12 u13 u14 u15 u16 u17 u18 : Value,
    BIf (decide (i6 < (8 : Int))) (
      0 ≤ s5 ∧ 0 ≤ (1 : Int) ∧ inR .u32 s5 ∧ inR .u32 (1 : Int) ∧
      0 ≤ (1 : Int) ∧ 0 ≤ s5 ∧
      BIf (decide ((bitsI .and s5 (1 : Int)) = (1 : Int))) (
        0 ≤ (s5 / 2) ∧ 0 ≤ (3988292384 : Int) ∧ inR .u32 (s5 / 2) ∧ inR .u32 (3988292384 : Int) ∧
        inR .i64 (i6 + (1 : Int)) ∧
        (I3 ((bitsI .xor (s5 / 2) (3988292384 : Int))) ((i6 + (1 : Int))) w7 ∧ mu4 ((bitsI .xor (s5 / 2) (3988292384 : Int))) ((i6 + (1 : Int))) w7 < mu4 s5 i6 w7)) (
        inR .i64 (i6 + (1 : Int)) ∧
        (I3 ((s5 / 2)) ((i6 + (1 : Int))) w7 ∧ mu4 ((s5 / 2)) ((i6 + (1 : Int))) w7 < mu4 s5 i6 w7))) (
      K (Value.int .u32 s5) w7))

theorem sums_step_eq (s1 : Int) (c2 : Int) (w : World) (K : Value → World → Prop) : sums_step s1 c2 w K = denF Tryd.prog callB Tryd.f79 (.two .none (.two .none (.two (.two .none (.one (.loop [(0, (Sh.int .u32)), (10, (Sh.int .i64))] [5, 11, 12, 13, 14, 15, 16, 17, 18, 19, 20] .none))) .none))) [(Value.int .u32 s1), (Value.int .u8 c2)] w K := by kernel_rfl
theorem sums_step_ok (s1 : Int) (c2 : Int) {w : World} {R : Ending → World → Prop} (h : sums_step s1 c2 w fun v w' => R (.returned v) w') : Calls Tryd.prog fn_sums_step ⟨[(Value.int .u32 s1), (Value.int .u8 c2)]⟩ w R :=
  calls_of_den callB_ok mixed Tryd.func79 (sums_step_eq s1 c2 w _ ▸ h)

/-- tidewater/sums.Sum -/
def sums_Sum (parts1 : Slc) (w : World) (K : Value → World → Prop) : Prop :=
  ∃ (I2 : (Int) → (Int) → World → Prop) (mu3 : (Int) → (Int) → World → Nat), I2 ((4294967295 : Int)) ((0 : Int)) w ∧ (
  ∀ s4 : Int, ∀ i5 : Int, ∀ w6 : World, I2 s4 i5 w6 → ∀ u7 u8 u9 u10 u11 u12 u13 u14 u15 u16 u17 u18 u19 u20 u21 u22 : Value,
    BIf (decide (i5 < ((parts1.l : Nat) : Int))) (
      needSome parts1.p fun a23 =>
      0 ≤ i5 ∧ i5 < ((parts1.l : Nat) : Int) ∧
      ∃ s24 : Slc, World.cell? w6 (Addr.add a23 ((Int.toNat i5) * 1)) = some (Slc.v s24) ∧
      ∃ (I25 : (Int) → (Int) → World → Prop) (mu26 : (Int) → (Int) → World → Nat), I25 (s4) ((0 : Int)) w6 ∧ (
      ∀ s27 : Int, ∀ i28 : Int, ∀ w29 : World, I25 s27 i28 w29 → ∀ u30 u31 u32 u33 u34 u35 u36 u37 : Value,
        BIf (decide (i28 < ((s24.l : Nat) : Int))) (
          needSome s24.p fun a38 =>
          0 ≤ i28 ∧ i28 < ((s24.l : Nat) : Int) ∧
          ∃ n39 : Int, World.cell? w29 (Addr.add a38 ((Int.toNat i28) * 1)) = some (Value.int .u8 n39) ∧
          Calls Tryd.prog fn_sums_step ⟨[(Value.int .u32 s27), (Value.int .u8 n39)]⟩ w29 fun e40 w41 =>
          ∃ n42 : Int, e40 = .returned (Value.int .u32 n42) ∧
          inR .i64 (i28 + (1 : Int)) ∧
          (I25 (n42) ((i28 + (1 : Int))) w41 ∧ mu26 (n42) ((i28 + (1 : Int))) w41 < mu26 s27 i28 w29)) (
          inR .i64 (i5 + (1 : Int)) ∧
          (I2 (s27) ((i5 + (1 : Int))) w29 ∧ mu3 (s27) ((i5 + (1 : Int))) w29 < mu3 s4 i5 w6)))) (
      0 ≤ s4 ∧ inR .u32 s4 ∧
      K (Value.int .u32 (bitsI .xor (IntKind.max .u32) s4)) w6))

theorem sums_Sum_eq (parts1 : Slc) (w : World) (K : Value → World → Prop) : sums_Sum parts1 w K = denF Tryd.prog callB Tryd.f58 (.two .none (.two .none (.two (.two .none (.one (.loop [(3, (Sh.int .u32)), (10, (Sh.int .i64))] [5, 7, 11, 12, 13, 14, 15, 16, 17, 18, 19, 20, 21, 22, 23, 24] (.two .none (.two .none (.two (.one (.two .none (.two .none (.one (.loop [(3, (Sh.int .u32)), (16, (Sh.int .i64))] [7, 17, 18, 19, 20, 21, 22, 23] .none))))) .none)))))) .none))) [(Slc.v parts1)] w K := by kernel_rfl
theorem sums_Sum_ok (parts1 : Slc) {w : World} {R : Ending → World → Prop} (h : sums_Sum parts1 w fun v w' => R (.returned v) w') : Calls Tryd.prog fn_sums_Sum ⟨[(Slc.v parts1)]⟩ w R :=
  calls_of_den callB_ok mixed Tryd.func58 (sums_Sum_eq parts1 w _ ▸ h)

/-- tidewater/tidewaterref01.Sum -/
def tidewaterref01_Sum (b1 : Slc) (w : World) (K : Value → World → Prop) : Prop :=
  ∃ (I2 : (Int) → (Int) → World → Prop) (mu3 : (Int) → (Int) → World → Nat), I2 ((4294967295 : Int)) ((0 : Int)) w ∧ (
  ∀ rest4 : Int, ∀ i5 : Int, ∀ w6 : World, I2 rest4 i5 w6 → ∀ u7 u8 u9 u10 u11 u12 u13 u14 u15 u16 u17 u18 u19 u20 u21 u22 u23 u24 u25 u26 u27 u28 u29 u30 u31 u32 : Value,
    BIf (decide (i5 < ((b1.l : Nat) : Int))) (
      needSome b1.p fun a33 =>
      0 ≤ i5 ∧ i5 < ((b1.l : Nat) : Int) ∧
      ∃ n34 : Int, World.cell? w6 (Addr.add a33 ((Int.toNat i5) * 1)) = some (Value.int .u8 n34) ∧
      ∃ (I35 : (Int) → (Int) → World → Prop) (mu36 : (Int) → (Int) → World → Nat), I35 (rest4) ((0 : Int)) w6 ∧ (
      ∀ rest37 : Int, ∀ i38 : Int, ∀ w39 : World, I35 rest37 i38 w39 → ∀ u40 u41 u42 u43 u44 u45 u46 u47 u48 u49 u50 u51 u52 u53 u54 u55 u56 u57 u58 u59 : Value,
        BIf (decide (i38 < (8 : Int))) (
          inR .u32 n34 ∧
          0 ≤ (IntKind.wrap .u64 i38) ∧ 0 ≤ n34 ∧
          0 ≤ (n34 / ((2 ^ min (Int.toNat (IntKind.wrap .u64 i38)) 32 : Nat) : Int)) ∧ 0 ≤ (1 : Int) ∧ inR .u32 (n34 / ((2 ^ min (Int.toNat (IntKind.wrap .u64 i38)) 32 : Nat) : Int)) ∧ inR .u32 (1 : Int) ∧
          0 ≤ rest37 ∧ 0 ≤ (1 : Int) ∧ inR .u32 rest37 ∧ inR .u32 (1 : Int) ∧
          BIf (!decide ((bitsI .and rest37 (1 : Int)) = (bitsI .and (n34 / ((2 ^ min (Int.toNat (IntKind.wrap .u64 i38)) 32 : Nat) : Int)) (1 : Int)))) (
            0 ≤ (1 : Int) ∧ 0 ≤ rest37 ∧
            0 ≤ (rest37 / 2) ∧ 0 ≤ (3988292384 : Int) ∧ inR .u32 (rest37 / 2) ∧ inR .u32 (3988292384 : Int) ∧
            inR .i64 (i38 + (1 : Int)) ∧
            (I35 ((bitsI .xor (rest37 / 2) (3988292384 : Int))) ((i38 + (1 : Int))) w39 ∧ mu36 ((bitsI .xor (rest37 / 2) (3988292384 : Int))) ((i38 + (1 : Int))) w39 < mu36 rest37 i38 w39)) (
            0 ≤ (1 : Int) ∧ 0 ≤ rest37 ∧
            inR .i64 (i38 + (1 : Int)) ∧
            (I35 ((rest37 / 2)) ((i38 + (1 : Int))) w39 ∧ mu36 ((rest37 / 2)) ((i38 + (1 : Int))) w39 < mu36 rest37 i38 w39))) (
          inR .i64 (i5 + (1 : Int)) ∧
          (I2 (rest37) ((i5 + (1 : Int))) w39 ∧ mu3 (rest37) ((i5 + (1 : Int))) w39 < mu3 rest4 i5 w6)))) (
      0 ≤ rest4 ∧ 0 ≤ (4294967295 : Int) ∧ inR .u32 rest4 ∧ inR .u32 (4294967295 : Int) ∧
      K (Value.int .u32 (bitsI .xor rest4 (4294967295 : Int))) w6))

theorem tidewaterref01_Sum_eq (b1 : Slc) (w : World) (K : Value → World → Prop) : tidewaterref01_Sum b1 w K = denF Tryd.prog callB Tryd.f61 (.two .none (.two .none (.two (.two .none (.one (.loop [(3, (Sh.int .u32)), (10, (Sh.int .i64))] [5, 6, 7, 11, 12, 13, 14, 15, 16, 17, 18, 19, 20, 21, 22, 23, 24, 25, 26, 27, 28, 29, 30, 31, 32, 33] (.two .none (.two .none (.two (.one (.two .none (.two .none (.one (.loop [(3, (Sh.int .u32)), (6, (Sh.int .i64))] [7, 14, 15, 16, 17, 18, 19, 20, 21, 22, 23, 24, 25, 26, 27, 28, 29, 30, 31, 32] .none))))) .none)))))) .none))) [(Slc.v b1)] w K := by kernel_rfl
theorem tidewaterref01_Sum_ok (b1 : Slc) {w : World} {R : Ending → World → Prop} (h : tidewaterref01_Sum b1 w fun v w' => R (.returned v) w') : Calls Tryd.prog fn_tidewaterref01_Sum ⟨[(Slc.v b1)]⟩ w R :=
  calls_of_den callB_ok mixed Tryd.func61 (tidewaterref01_Sum_eq b1 w _ ▸ h)

/-- slices.Clone[[]byte,byte] -/
def slices_Clone_byte (s1 : Slc) (w : World) (K : Value → World → Prop) : Prop :=
  BIf (Option.isNone (s1.p : Option Addr)) (
    K (Slc.v (⟨none, 0, 0⟩ : Slc)) w) (
    newS w (.cells ⟨[]⟩ 5) fun r2 w3 =>
    appendS 1 5 [(Value.int .u8 (0 : Int))] w3 (⟨(some (⟨r2, 0, none⟩ : Addr)), 0, 0⟩ : Slc) (.slc s1) fun s4 w5 =>
    K (Slc.v s4) w5)

theorem slices_Clone_byte_eq (s1 : Slc) (w : World) (K : Value → World → Prop) : slices_Clone_byte s1 w K = denF Tryd.prog callB Tryd.f59 .none [(Slc.v s1)] w K := by kernel_rfl
theorem slices_Clone_byte_ok (s1 : Slc) {w : World} {R : Ending → World → Prop} (h : slices_Clone_byte s1 w fun v w' => R (.returned v) w') : Calls Tryd.prog fn_slices_Clone_byte ⟨[(Slc.v s1)]⟩ w R :=
  calls_of_den callB_ok mixed Tryd.func59 (slices_Clone_byte_eq s1 w _ ▸ h)

/-- tidewater/sums.Size -/
def sums_Size (n1 : Int) (w : World) (K : Value → World → Prop) : Prop :=
  BIf (decide (n1 < (0 : Int))) (
    K (Value.int .i64 (0 : Int)) w) (
    BIf (decide ((2048 : Int) < n1)) (
      K (Value.int .i64 (0 : Int)) w) (
      inR .i64 ((6 : Int) + n1) ∧
      K (Value.int .i64 ((6 : Int) + n1)) w))

theorem sums_Size_eq (n1 : Int) (w : World) (K : Value → World → Prop) : sums_Size n1 w K = denF Tryd.prog callB Tryd.f16 .none [(Value.int .i64 n1)] w K := by kernel_rfl
theorem sums_Size_ok (n1 : Int) {w : World} {R : Ending → World → Prop} (h : sums_Size n1 w fun v w' => R (.returned v) w') : Calls Tryd.prog fn_sums_Size ⟨[(Value.int .i64 n1)]⟩ w R :=
  calls_of_den callB_ok mixed Tryd.func16 (sums_Size_eq n1 w _ ▸ h)

/-- tidewater/sums.Frame -/
def sums_Frame (b1 : Slc) (w : World) (K : Value → World → Prop) : Prop :=
  BIf (decide ((2048 : Int) < ((b1.l : Nat) : Int))) (
    ∃ v2 : Value, World.cell? (World.drew w) (⟨gl_ErrLong, 0, none⟩ : Addr) = some v2 ∧
    K (Value.tuple ⟨[(Slc.v (⟨none, 0, 0⟩ : Slc)), v2]⟩) (World.drew w)) (
    0 ≤ (8 : Int) ∧ 0 ≤ ((b1.l : Nat) : Int) ∧
    newS w (.cells ⟨[(Value.int .u8 (IntKind.wrap .u8 ((b1.l : Nat) : Int))), (Value.int .u8 (IntKind.wrap .u8 (((b1.l : Nat) : Int) / 256)))]⟩ 5) fun r3 w4 =>
    newS w4 (.cells ⟨[(Slc.v (⟨(some (⟨r3, 0, none⟩ : Addr)), 2, 2⟩ : Slc)), (Slc.v b1)]⟩ 24) fun r5 w6 =>
    Calls Tryd.prog fn_sums_Sum ⟨[(Slc.v (⟨(some (⟨r5, 0, none⟩ : Addr)), 2, 2⟩ : Slc))]⟩ w6 fun e7 w8 =>
    ∃ n9 : Int, e7 = .returned (Value.int .u32 n9) ∧
    0 ≤ (8 : Int) ∧ 0 ≤ n9 ∧
    0 ≤ (16 : Int) ∧ 0 ≤ n9 ∧
    0 ≤ (24 : Int) ∧ 0 ≤ n9 ∧
    newS w8 (.cells ⟨[(Value.int .u8 (IntKind.wrap .u8 n9)), (Value.int .u8 (IntKind.wrap .u8 (n9 / 256))), (Value.int .u8 (IntKind.wrap .u8 (n9 / 65536))), (Value.int .u8 (IntKind.wrap .u8 (n9 / 16777216)))]⟩ 5) fun r10 w11 =>
    appendS 1 5 [(Value.int .u8 (0 : Int))] w11 (⟨(some (⟨r3, 0, none⟩ : Addr)), 2, 2⟩ : Slc) (.slc (⟨(some (⟨r10, 0, none⟩ : Addr)), 4, 4⟩ : Slc)) fun s12 w13 =>
    appendS 1 5 [(Value.int .u8 (0 : Int))] w13 s12 (.slc b1) fun s14 w15 =>
    K (Value.tuple ⟨[(Slc.v s14), Value.nilIface]⟩) w15)

theorem sums_Frame_eq (b1 : Slc) (w : World) (K : Value → World → Prop) : sums_Frame b1 w K = denF Tryd.prog callB Tryd.f17 .none [(Slc.v b1)] w K := by kernel_rfl
theorem sums_Frame_ok (b1 : Slc) {w : World} {R : Ending → World → Prop} (h : sums_Frame b1 w fun v w' => R (.returned v) w') : Calls Tryd.prog fn_sums_Frame ⟨[(Slc.v b1)]⟩ w R :=
  calls_of_den callB_ok mixed Tryd.func17 (sums_Frame_eq b1 w _ ▸ h)

/-- tidewater/sums.Open -/
def sums_Open (b1 : Slc) (w : World) (K : Value → World → Prop) : Prop :=
  BIf (decide (((b1.l : Nat) : Int) < (6 : Int))) (
    ∃ v2 : Value, World.cell? (World.drew w) (⟨gl_ErrShort, 0, none⟩ : Addr) = some v2 ∧
    K (Value.tuple ⟨[(Slc.v (⟨none, 0, 0⟩ : Slc)), (Slc.v (⟨none, 0, 0⟩ : Slc)), v2]⟩) (World.drew w)) (
    needSome b1.p fun a3 =>
    0 ≤ (0 : Int) ∧ (0 : Int) < ((b1.l : Nat) : Int) ∧
    ∃ n4 : Int, World.cell? (World.drew w) a3 = some (Value.int .u8 n4) ∧
    inR .i64 n4 ∧
    needSome b1.p fun a5 =>
    0 ≤ (1 : Int) ∧ (1 : Int) < ((b1.l : Nat) : Int) ∧
    ∃ n6 : Int, World.cell? (World.drew w) (a5.add 1) = some (Value.int .u8 n6) ∧
    inR .i64 n6 ∧
    0 ≤ (8 : Int) ∧
    inR .i64 (n6 * 256) ∧
    0 ≤ n4 ∧ 0 ≤ (n6 * 256) ∧ inR .i64 n4 ∧ inR .i64 (n6 * 256) ∧
    BIf (decide ((2048 : Int) < (bitsI .or n4 (n6 * 256)))) (
      ∃ v7 : Value, World.cell? (World.drew (World.drew w)) (⟨gl_ErrLong, 0, none⟩ : Addr) = some v7 ∧
      K (Value.tuple ⟨[(Slc.v (⟨none, 0, 0⟩ : Slc)), (Slc.v (⟨none, 0, 0⟩ : Slc)), v7]⟩) (World.drew (World.drew w))) (
      inR .i64 ((6 : Int) + (bitsI .or n4 (n6 * 256))) ∧
      BIf (decide (((b1.l : Nat) : Int) < ((6 : Int) + (bitsI .or n4 (n6 * 256))))) (
        ∃ v8 : Value, World.cell? (World.drew (World.drew w)) (⟨gl_ErrShort, 0, none⟩ : Addr) = some v8 ∧
        K (Value.tuple ⟨[(Slc.v (⟨none, 0, 0⟩ : Slc)), (Slc.v (⟨none, 0, 0⟩ : Slc)), v8]⟩) (World.drew (World.drew w))) (
        needSome b1.p fun a9 =>
        0 ≤ (2 : Int) ∧ (2 : Int) < ((b1.l : Nat) : Int) ∧
        ∃ n10 : Int, World.cell? (World.drew (World.drew w)) (a9.add 2) = some (Value.int .u8 n10) ∧
        inR .u32 n10 ∧
        needSome b1.p fun a11 =>
        0 ≤ (3 : Int) ∧ (3 : Int) < ((b1.l : Nat) : Int) ∧
        ∃ n12 : Int, World.cell? (World.drew (World.drew w)) (a11.add 3) = some (Value.int .u8 n12) ∧
        inR .u32 n12 ∧
        0 ≤ (8 : Int) ∧
        0 ≤ n10 ∧ 0 ≤ (IntKind.wrap .u32 (n12 * 256)) ∧ inR .u32 n10 ∧ inR .u32 (IntKind.wrap .u32 (n12 * 256)) ∧
        needSome b1.p fun a13 =>
        0 ≤ (4 : Int) ∧ (4 : Int) < ((b1.l : Nat) : Int) ∧
        ∃ n14 : Int, World.cell? (World.drew (World.drew w)) (a13.add 4) = some (Value.int .u8 n14) ∧
        inR .u32 n14 ∧
        0 ≤ (16 : Int) ∧
        0 ≤ (bitsI .or n10 (IntKind.wrap .u32 (n12 * 256))) ∧ 0 ≤ (IntKind.wrap .u32 (n14 * 65536)) ∧ inR .u32 (bitsI .or n10 (IntKind.wrap .u32 (n12 * 256))) ∧ inR .u32 (IntKind.wrap .u32 (n14 * 65536)) ∧
        needSome b1.p fun a15 =>
        0 ≤ (5 : Int) ∧ (5 : Int) < ((b1.l : Nat) : Int) ∧
        ∃ n16 : Int, World.cell? (World.drew (World.drew w)) (a15.add 5) = some (Value.int .u8 n16) ∧
        inR .u32 n16 ∧
        0 ≤ (24 : Int) ∧
        0 ≤ (bitsI .or (bitsI .or n10 (IntKind.wrap .u32 (n12 * 256))) (IntKind.wrap .u32 (n14 * 65536))) ∧ 0 ≤ (IntKind.wrap .u32 (n16 * 16777216)) ∧ inR .u32 (bitsI .or (bitsI .or n10 (IntKind.wrap .u32 (n12 * 256))) (IntKind.wrap .u32 (n14 * 65536))) ∧ inR .u32 (IntKind.wrap .u32 (n16 * 16777216)) ∧
        inR .i64 ((6 : Int) + (bitsI .or n4 (n6 * 256))) ∧
        0 ≤ (6 : Int) ∧ (6 : Int) ≤ ((6 : Int) + (bitsI .or n4 (n6 * 256))) ∧ ((6 : Int) + (bitsI .or n4 (n6 * 256))) ≤ ((b1.c : Nat) : Int) ∧ ((b1.c : Nat) : Int) ≤ ((b1.c : Nat) : Int) ∧
        0 ≤ (0 : Int) ∧ (0 : Int) ≤ (2 : Int) ∧ (2 : Int) ≤ ((b1.c : Nat) : Int) ∧ ((b1.c : Nat) : Int) ≤ ((b1.c : Nat) : Int) ∧
        newS (World.drew (World.drew w)) (.cells ⟨[(Slc.v (Slc.sub b1 1 0 2 b1.c)), (Slc.v (Slc.sub b1 1 6 (Int.toNat ((6 : Int) + (bitsI .or n4 (n6 * 256)))) b1.c))]⟩ 24) fun r19 w20 =>
        Calls Tryd.prog fn_sums_Sum ⟨[(Slc.v (⟨(some (⟨r19, 0, none⟩ : Addr)), 2, 2⟩ : Slc))]⟩ w20 fun e21 w22 =>
        ∃ n23 : Int, e21 = .returned (Value.int .u32 n23) ∧
        BIf (!decide (n23 = (bitsI .or (bitsI .or (bitsI .or n10 (IntKind.wrap .u32 (n12 * 256))) (IntKind.wrap .u32 (n14 * 65536))) (IntKind.wrap .u32 (n16 * 16777216))))) (
          ∃ v24 : Value, World.cell? (World.drew w22) (⟨gl_ErrSum, 0, none⟩ : Addr) = some v24 ∧
          K (Value.tuple ⟨[(Slc.v (⟨none, 0, 0⟩ : Slc)), (Slc.v (⟨none, 0, 0⟩ : Slc)), v24]⟩) (World.drew w22)) (
          inR .i64 ((6 : Int) + (bitsI .or n4 (n6 * 256))) ∧
          0 ≤ ((6 : Int) + (bitsI .or n4 (n6 * 256))) ∧ ((6 : Int) + (bitsI .or n4 (n6 * 256))) ≤ ((b1.l : Nat) : Int) ∧ ((b1.l : Nat) : Int) ≤ ((b1.c : Nat) : Int) ∧ ((b1.c : Nat) : Int) ≤ ((b1.c : Nat) : Int) ∧
          Calls Tryd.prog fn_slices_Clone_byte ⟨[(Slc.v (Slc.sub b1 1 6 (Int.toNat ((6 : Int) + (bitsI .or n4 (n6 * 256)))) b1.c))]⟩ (World.drew w22) fun e26 w27 =>
          ∃ s28 : Slc, e26 = .returned (Slc.v s28) ∧
          Calls Tryd.prog fn_slices_Clone_byte ⟨[(Slc.v (Slc.sub b1 1 (Int.toNat ((6 : Int) + (bitsI .or n4 (n6 * 256)))) b1.l b1.c))]⟩ w27 fun e29 w30 =>
          ∃ s31 : Slc, e29 = .returned (Slc.v s31) ∧
          K (Value.tuple ⟨[(Slc.v s28), (Slc.v s31), Value.nilIface]⟩) w30))))

theorem sums_Open_eq (b1 : Slc) (w : World) (K : Value → World → Prop) : sums_Open b1 w K = denF Tryd.prog callB Tryd.f19 (.two .none (.two .none (.two .none (.two .none (.two (.reg [8, 14, 20]) .none))))) [(Slc.v b1)] w K := by kernel_rfl
theorem sums_Open_ok (b1 : Slc) {w : World} {R : Ending → World → Prop} (h : sums_Open b1 w fun v w' => R (.returned v) w') : Calls Tryd.prog fn_sums_Open ⟨[(Slc.v b1)]⟩ w R :=
  calls_of_den callB_ok mixed Tryd.func19 (sums_Open_eq b1 w _ ▸ h)

/-- tidewater/tidewaternum.Bytes -/
def tidewaternum_Bytes (a1 : Slc) (w : World) (K : Value → World → Prop) : Prop :=
  inR .i64 (((a1.l : Nat) : Int) + (6 : Int)) ∧
  0 ≤ (0 : Int) ∧ (0 : Int) ≤ (((a1.l : Nat) : Int) + (6 : Int)) ∧ (((a1.l : Nat) : Int) + (6 : Int)) ≤ 2 ^ 30 ∧
  newS w (.cells ⟨repl (Int.toNat (((a1.l : Nat) : Int) + (6 : Int))) [(Value.int .u8 (0 : Int))]⟩ 5) fun r2 w3 =>
  appendS 1 5 [(Value.int .u8 (0 : Int))] w3 (⟨(some (⟨r2, 0, none⟩ : Addr)), 0, (Int.toNat (((a1.l : Nat) : Int) + (6 : Int)))⟩ : Slc) (.slc a1) fun s4 w5 =>
  newS w5 (.cells ⟨[(Value.int .u8 (201 : Int)), (Value.int .u8 (202 : Int)), (Value.int .u8 (203 : Int)), (Value.int .u8 (204 : Int)), (Value.int .u8 (205 : Int)), (Value.int .u8 (206 : Int))]⟩ 5) fun r6 w7 =>
  appendS 1 5 [(Value.int .u8 (0 : Int))] w7 s4 (.slc (⟨(some (⟨r6, 0, none⟩ : Addr)), 6, 6⟩ : Slc)) fun s8 w9 =>
  0 ≤ (0 : Int) ∧ (0 : Int) ≤ ((a1.l : Nat) : Int) ∧ ((a1.l : Nat) : Int) ≤ ((s8.c : Nat) : Int) ∧ ((s8.c : Nat) : Int) ≤ ((s8.c : Nat) : Int) ∧
  K (Slc.v (Slc.sub s8 1 0 a1.l s8.c)) w9

theorem tidewaternum_Bytes_eq (a1 : Slc) (w : World) (K : Value → World → Prop) : tidewaternum_Bytes a1 w K = denF Tryd.prog callB Tryd.f18 .none [(Slc.v a1)] w K := by kernel_rfl
theorem tidewaternum_Bytes_ok (a1 : Slc) {w : World} {R : Ending → World → Prop} (h : tidewaternum_Bytes a1 w fun v w' => R (.returned v) w') : Calls Tryd.prog fn_tidewaternum_Bytes ⟨[(Slc.v a1)]⟩ w R :=
  calls_of_den callB_ok mixed Tryd.func18 (tidewaternum_Bytes_eq a1 w _ ▸ h)

/-- tidewater/tidewaternum.Kept -/
def tidewaternum_Kept (a1 : Slc) (was2 : Slc) (w : World) (K : Value → World → Prop) : Prop :=
  0 ≤ (0 : Int) ∧ (0 : Int) ≤ ((a1.c : Nat) : Int) ∧ ((a1.c : Nat) : Int) ≤ ((a1.c : Nat) : Int) ∧ ((a1.c : Nat) : Int) ≤ ((a1.c : Nat) : Int) ∧
  ∃ J4 : World → Prop,
  (
    inR .i64 (((was2.l : Nat) : Int) + (6 : Int)) ∧
    BIf (decide ((((Slc.sub a1 1 0 a1.c a1.c).l : Nat) : Int) < (((was2.l : Nat) : Int) + (6 : Int)))) (
      K (Value.bool false) (World.drew w)) (
      0 ≤ (0 : Int) ∧ (0 : Int) ≤ ((was2.l : Nat) : Int) ∧ ((was2.l : Nat) : Int) ≤ (((Slc.sub a1 1 0 a1.c a1.c).c : Nat) : Int) ∧ (((Slc.sub a1 1 0 a1.c a1.c).c : Nat) : Int) ≤ (((Slc.sub a1 1 0 a1.c a1.c).c : Nat) : Int) ∧
      ∃ t6 : List UInt8, bytesAt (World.drew w) (Slc.sub (Slc.sub a1 1 0 a1.c a1.c) 1 0 was2.l (Slc.sub a1 1 0 a1.c a1.c).c) t6 ∧
      ∃ t7 : List UInt8, bytesAt (World.drew w) was2 t7 ∧
      BIf (!decide (t6 = t7)) (
        K (Value.bool false) (World.drew w)) (
        J4 (World.drew w)))) ∧ (
  ∀ w8 : World, J4 w8 → ∀ u9 u10 u11 u12 u13 u14 u15 u16 u17 u18 u19 u20 u21 u22 u23 u24 u25 : Value,
    ∃ (I26 : (Int) → World → Prop) (mu27 : (Int) → World → Nat), I26 ((0 : Int)) w8 ∧ (
    ∀ i28 : Int, ∀ w29 : World, I26 i28 w29 → ∀ u30 u31 u32 u33 u34 u35 u36 u37 u38 u39 u40 u41 u42 u43 u44 u45 : Value,
      BIf (decide (i28 < (6 : Int))) (
        inR .i64 (((was2.l : Nat) : Int) + i28) ∧
        needSome (Slc.sub a1 1 0 a1.c a1.c).p fun a46 =>
        0 ≤ (((was2.l : Nat) : Int) + i28) ∧ (((was2.l : Nat) : Int) + i28) < (((Slc.sub a1 1 0 a1.c a1.c).l : Nat) : Int) ∧
        ∃ n47 : Int, World.cell? w29 (Addr.add a46 ((Int.toNat (((was2.l : Nat) : Int) + i28)) * 1)) = some (Value.int .u8 n47) ∧
        inR .i64 ((201 : Int) + i28) ∧
        BIf (!decide (n47 = (IntKind.wrap .u8 ((201 : Int) + i28)))) (
          K (Value.bool false) w29) (
          inR .i64 (i28 + (1 : Int)) ∧
          (I26 ((i28 + (1 : Int))) w29 ∧ mu27 ((i28 + (1 : Int))) w29 < mu27 i28 w29))) (
        K (Value.bool true) w29)))

theorem tidewaternum_Kept_eq (a1 : Slc) (was2 : Slc) (w : World) (K : Value → World → Prop) : tidewaternum_Kept a1 was2 w K = denF Tryd.prog callB Tryd.f22 (.two .none (.two .none (.cut [] [4, 11, 12, 13, 14, 15, 16, 17, 18, 19, 20, 21, 22, 23, 24, 25, 26] .none (.two (.two .none (.one (.loop [(6, (Sh.int .i64))] [4, 27, 28, 29, 30, 31, 32, 33, 34, 35, 36, 37, 38, 39, 40, 41] .none))) .none)))) [(Slc.v a1), (Slc.v was2)] w K := by kernel_rfl
theorem tidewaternum_Kept_ok (a1 : Slc) (was2 : Slc) {w : World} {R : Ending → World → Prop} (h : tidewaternum_Kept a1 was2 w fun v w' => R (.returned v) w') : Calls Tryd.prog fn_tidewaternum_Kept ⟨[(Slc.v a1), (Slc.v was2)]⟩ w R :=
  calls_of_den callB_ok mixed Tryd.func22 (tidewaternum_Kept_eq a1 was2 w _ ▸ h)

/-- tidewater/tidewaterref01.Frame -/
def tidewaterref01_Frame (b1 : Slc) (w : World) (K : Value → World → Prop) : Prop :=
  0 ≤ ((b1.l : Nat) : Int) ∧ 0 < (256 : Int) ∧
  0 ≤ ((b1.l : Nat) : Int) ∧ 0 < (256 : Int) ∧ inR .i64 ((b1.l : Nat) : Int) ∧
  newS w (.cells ⟨[(Value.int .u8 (IntKind.wrap .u8 (((b1.l : Nat) : Int) % (256 : Int)))), (Value.int .u8 (IntKind.wrap .u8 (((b1.l : Nat) : Int) / (256 : Int))))]⟩ 5) fun r2 w3 =>
  newS w3 (.cells ⟨[]⟩ 5) fun r4 w5 =>
  appendS 1 5 [(Value.int .u8 (0 : Int))] w5 (⟨(some (⟨r4, 0, none⟩ : Addr)), 0, 0⟩ : Slc) (.slc (⟨(some (⟨r2, 0, none⟩ : Addr)), 2, 2⟩ : Slc)) fun s6 w7 =>
  appendS 1 5 [(Value.int .u8 (0 : Int))] w7 s6 (.slc b1) fun s8 w9 =>
  Calls Tryd.prog fn_tidewaterref01_Sum ⟨[(Slc.v s8)]⟩ w9 fun e10 w11 =>
  ∃ n12 : Int, e10 = .returned (Value.int .u32 n12) ∧
  0 ≤ (8 : Int) ∧ 0 ≤ n12 ∧
  0 ≤ (16 : Int) ∧ 0 ≤ n12 ∧
  0 ≤ (24 : Int) ∧ 0 ≤ n12 ∧
  newS w11 (.cells ⟨[(Value.int .u8 (IntKind.wrap .u8 n12)), (Value.int .u8 (IntKind.wrap .u8 (n12 / 256))), (Value.int .u8 (IntKind.wrap .u8 (n12 / 65536))), (Value.int .u8 (IntKind.wrap .u8 (n12 / 16777216)))]⟩ 5) fun r13 w14 =>
  appendS 1 5 [(Value.int .u8 (0 : Int))] w14 (⟨(some (⟨r2, 0, none⟩ : Addr)), 2, 2⟩ : Slc) (.slc (⟨(some (⟨r13, 0, none⟩ : Addr)), 4, 4⟩ : Slc)) fun s15 w16 =>
  appendS 1 5 [(Value.int .u8 (0 : Int))] w16 s15 (.slc b1) fun s17 w18 =>
  K (Slc.v s17) w18

theorem tidewaterref01_Frame_eq (b1 : Slc) (w : World) (K : Value → World → Prop) : tidewaterref01_Frame b1 w K = denF Tryd.prog callB Tryd.f23 .none [(Slc.v b1)] w K := by kernel_rfl
theorem tidewaterref01_Frame_ok (b1 : Slc) {w : World} {R : Ending → World → Prop} (h : tidewaterref01_Frame b1 w fun v w' => R (.returned v) w') : Calls Tryd.prog fn_tidewaterref01_Frame ⟨[(Slc.v b1)]⟩ w R :=
  calls_of_den callB_ok mixed Tryd.func23 (tidewaterref01_Frame_eq b1 w _ ▸ h)

/-- tidewater/tidewaterref01.Open -/
def tidewaterref01_Open (b1 : Slc) (w : World) (K : Value → World → Prop) : Prop :=
  BIf (decide (((b1.l : Nat) : Int) < (6 : Int))) (
    K (Value.tuple ⟨[(Slc.v (⟨none, 0, 0⟩ : Slc)), (Slc.v (⟨none, 0, 0⟩ : Slc)), (Value.int .i64 (2 : Int))]⟩) w) (
    needSome b1.p fun a2 =>
    0 ≤ (0 : Int) ∧ (0 : Int) < ((b1.l : Nat) : Int) ∧
    ∃ n3 : Int, World.cell? (World.drew w) a2 = some (Value.int .u8 n3) ∧
    inR .i64 n3 ∧
    needSome b1.p fun a4 =>
    0 ≤ (1 : Int) ∧ (1 : Int) < ((b1.l : Nat) : Int) ∧
    ∃ n5 : Int, World.cell? (World.drew w) (a4.add 1) = some (Value.int .u8 n5) ∧
    inR .i64 n5 ∧
    inR .i64 ((256 : Int) * n5) ∧
    inR .i64 (n3 + ((256 : Int) * n5)) ∧
    BIf (decide ((2048 : Int) < (n3 + ((256 : Int) * n5)))) (
      K (Value.tuple ⟨[(Slc.v (⟨none, 0, 0⟩ : Slc)), (Slc.v (⟨none, 0, 0⟩ : Slc)), (Value.int .i64 (3 : Int))]⟩) (World.drew w)) (
      inR .i64 (((b1.l : Nat) : Int) - (6 : Int)) ∧
      BIf (decide ((((b1.l : Nat) : Int) - (6 : Int)) < (n3 + ((256 : Int) * n5)))) (
        K (Value.tuple ⟨[(Slc.v (⟨none, 0, 0⟩ : Slc)), (Slc.v (⟨none, 0, 0⟩ : Slc)), (Value.int .i64 (2 : Int))]⟩) (World.drew w)) (
        inR .i64 ((6 : Int) + (n3 + ((256 : Int) * n5))) ∧
        0 ≤ (6 : Int) ∧ (6 : Int) ≤ ((6 : Int) + (n3 + ((256 : Int) * n5))) ∧ ((6 : Int) + (n3 + ((256 : Int) * n5))) ≤ ((b1.c : Nat) : Int) ∧ ((b1.c : Nat) : Int) ≤ ((b1.c : Nat) : Int) ∧
        inR .i64 ((6 : Int) + (n3 + ((256 : Int) * n5))) ∧
        0 ≤ (0 : Int) ∧ (0 : Int) ≤ ((6 : Int) + (n3 + ((256 : Int) * n5))) ∧ ((6 : Int) + (n3 + ((256 : Int) * n5))) ≤ ((b1.c : Nat) : Int) ∧ ((b1.c : Nat) : Int) ≤ ((b1.c : Nat) : Int) ∧
        ∃ t8 : List UInt8, bytesAt (World.drew (World.drew w)) (Slc.sub b1 1 0 (Int.toNat ((6 : Int) + (n3 + ((256 : Int) * n5)))) b1.c) t8 ∧
        Calls Tryd.prog fn_tidewaterref01_Frame ⟨[(Slc.v (Slc.sub b1 1 6 (Int.toNat ((6 : Int) + (n3 + ((256 : Int) * n5)))) b1.c))]⟩ (World.drew (World.drew w)) fun e9 w10 =>
        ∃ s11 : Slc, e9 = .returned (Slc.v s11) ∧
        (∃ t12 : List UInt8, bytesAt w10 (Slc.sub b1 1 0 (Int.toNat ((6 : Int) + (n3 + ((256 : Int) * n5)))) b1.c) t12 ∧
        (strV t12) = (strV t8)) ∧
        ∃ t13 : List UInt8, bytesAt w10 s11 t13 ∧
        BIf (!decide (t13 = t8)) (
          K (Value.tuple ⟨[(Slc.v (⟨none, 0, 0⟩ : Slc)), (Slc.v (⟨none, 0, 0⟩ : Slc)), (Value.int .i64 (5 : Int))]⟩) w10) (
          inR .i64 ((6 : Int) + (n3 + ((256 : Int) * n5))) ∧
          0 ≤ (6 : Int) ∧ (6 : Int) ≤ ((6 : Int) + (n3 + ((256 : Int) * n5))) ∧ ((6 : Int) + (n3 + ((256 : Int) * n5))) ≤ ((b1.c : Nat) : Int) ∧ ((b1.c : Nat) : Int) ≤ ((b1.c : Nat) : Int) ∧
          inR .i64 ((6 : Int) + (n3 + ((256 : Int) * n5))) ∧
          0 ≤ ((6 : Int) + (n3 + ((256 : Int) * n5))) ∧ ((6 : Int) + (n3 + ((256 : Int) * n5))) ≤ ((b1.l : Nat) : Int) ∧ ((b1.l : Nat) : Int) ≤ ((b1.c : Nat) : Int) ∧ ((b1.c : Nat) : Int) ≤ ((b1.c : Nat) : Int) ∧
          (
            newS (World.drew w10) (.cells ⟨[]⟩ 5) fun r16 w17 =>
            (
              appendS 1 5 [(Value.int .u8 (0 : Int))] w17 (⟨(some (⟨r16, 0, none⟩ : Addr)), 0, 0⟩ : Slc) (.slc (Slc.sub b1 1 6 (Int.toNat ((6 : Int) + (n3 + ((256 : Int) * n5)))) b1.c)) fun s18 w19 =>
              newS w19 (.cells ⟨[]⟩ 5) fun r20 w21 =>
              appendS 1 5 [(Value.int .u8 (0 : Int))] w21 (⟨(some (⟨r20, 0, none⟩ : Addr)), 0, 0⟩ : Slc) (.slc (Slc.sub b1 1 (Int.toNat ((6 : Int) + (n3 + ((256 : Int) * n5)))) b1.l b1.c)) fun s22 w23 =>
              K (Value.tuple ⟨[(Slc.v s18), (Slc.v s22), (Value.int .i64 (0 : Int))]⟩) w23) ∧
            (
              newS w17 (.cells ⟨[]⟩ 5) fun r24 w25 =>
              appendS 1 5 [(Value.int .u8 (0 : Int))] w25 (⟨(some (⟨r16, 0, none⟩ : Addr)), 0, 0⟩ : Slc) (.slc (Slc.sub b1 1 6 (Int.toNat ((6 : Int) + (n3 + ((256 : Int) * n5)))) b1.c)) fun s26 w27 =>
              appendS 1 5 [(Value.int .u8 (0 : Int))] w27 (⟨(some (⟨r24, 0, none⟩ : Addr)), 0, 0⟩ : Slc) (.slc (Slc.sub b1 1 (Int.toNat ((6 : Int) + (n3 + ((256 : Int) * n5)))) b1.l b1.c)) fun s28 w29 =>
              K (Value.tuple ⟨[(Slc.v s26), (Slc.v s28), (Value.int .i64 (0 : Int))]⟩) w29)) ∧
          (
            newS (World.drew w10) (.cells ⟨[]⟩ 5) fun r30 w31 =>
            newS w31 (.cells ⟨[]⟩ 5) fun r32 w33 =>
            appendS 1 5 [(Value.int .u8 (0 : Int))] w33 (⟨(some (⟨r32, 0, none⟩ : Addr)), 0, 0⟩ : Slc) (.slc (Slc.sub b1 1 6 (Int.toNat ((6 : Int) + (n3 + ((256 : Int) * n5)))) b1.c)) fun s34 w35 =>
            appendS 1 5 [(Value.int .u8 (0 : Int))] w35 (⟨(some (⟨r30, 0, none⟩ : Addr)), 0, 0⟩ : Slc) (.slc (Slc.sub b1 1 (Int.toNat ((6 : Int) + (n3 + ((256 : Int) * n5)))) b1.l b1.c)) fun s36 w37 =>
            K (Value.tuple ⟨[(Slc.v s34), (Slc.v s36), (Value.int .i64 (0 : Int))]⟩) w37)))))

theorem tidewaterref01_Open_eq (b1 : Slc) (w : World) (K : Value → World → Prop) : tidewaterref01_Open b1 w K = denF Tryd.prog callB Tryd.f20 .none [(Slc.v b1)] w K := by kernel_rfl
theorem tidewaterref01_Open_ok (b1 : Slc) {w : World} {R : Ending → World → Prop} (h : tidewaterref01_Open b1 w fun v w' => R (.returned v) w') : Calls Tryd.prog fn_tidewaterref01_Open ⟨[(Slc.v b1)]⟩ w R :=
  calls_of_den callB_ok mixed Tryd.func20 (tidewaterref01_Open_eq b1 w _ ▸ h)

/-- tidewater/tidewaterlaw01.alive -/
def tidewaterlaw01_alive  (w : World) (K : Value → World → Prop) : Prop :=
  newS w (.cells ⟨[(Value.int .u8 (49 : Int)), (Value.int .u8 (50 : Int)), (Value.int .u8 (51 : Int)), (Value.int .u8 (52 : Int)), (Value.int .u8 (53 : Int)), (Value.int .u8 (54 : Int)), (Value.int .u8 (55 : Int)), (Value.int .u8 (56 : Int)), (Value.int .u8 (57 : Int))]⟩ 5) fun r1 w2 =>
  ∀ w4 : World, w4 = markW w2 r1 →
  newS w4 (.cells ⟨[(Slc.v (⟨(some (⟨r1, 0, none⟩ : Addr)), 9, 9⟩ : Slc))]⟩ 24) fun r5 w6 =>
  Calls Tryd.prog fn_sums_Sum ⟨[(Slc.v (⟨(some (⟨r5, 0, none⟩ : Addr)), 1, 1⟩ : Slc))]⟩ w6 fun e7 w8 =>
  ∃ n9 : Int, e7 = .returned (Value.int .u32 n9) ∧
  BIf (decide (n9 = (3421780262 : Int))) (
    Calls Tryd.prog fn_sums_Size ⟨[(Value.int .i64 (3 : Int))]⟩ w8 fun e10 w11 =>
    ∃ n12 : Int, e10 = .returned (Value.int .i64 n12) ∧
    K (Value.bool (decide (n12 = (9 : Int)))) w11) (
    K (Value.bool false) w8)

theorem tidewaterlaw01_alive_eq  (w : World) (K : Value → World → Prop) : tidewaterlaw01_alive  w K = denF Tryd.prog callB Tryd.f15 .none [] w K := by kernel_rfl
theorem tidewaterlaw01_alive_ok  {w : World} {R : Ending → World → Prop} (h : tidewaterlaw01_alive  w fun v w' => R (.returned v) w') : Calls Tryd.prog fn_tidewaterlaw01_alive ⟨[]⟩ w R :=
  calls_of_den callB_ok mixed Tryd.func15 (tidewaterlaw01_alive_eq  w _ ▸ h)

end Go.D
