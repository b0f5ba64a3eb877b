/-
  WHAT IS PROVED: verification conditions of functions of this program, each with its soundness. No further conditions.
-/
import Derived.Test.YtflaepdhphphhaaBase
set_option linter.unusedSimpArgs false
set_option maxRecDepth 100000
set_option linter.unusedVariables false
namespace Go.D
open Go Go.Proofs
/-- tidewater/sums.step -/
def sums_step (s1 : Int) (c2 : Int) (w : World) (K : Value → World → Prop) : Prop :=
  inR .u32 c2 ∧
  0 ≤ s1 ∧ 0 ≤ c2 ∧ inR .u32 s1 ∧ inR .u32 c2 ∧
  ∃ (I3 : (Int) → (Int) → World → Prop) (mu4 : (Int) → (Int) → World → Nat), I3 ((bitsI .xor s1 c2)) ((0 : Int)) w ∧ (
  ∀ s5 : Int, ∀ i6 : Int, ∀ w7 : World, I3 s5 i6 w7 → ∀ u8 u9 u10 u11 u12 u13 u14 u15 u16 u17 u18 : Value,
    BIf (decide (i6 < (8 : Int))) (
      0 ≤ s5 ∧ 0 ≤ (1 : Int) ∧ inR .u32 s5 ∧ inR .u32 (1 : Int) ∧
      0 ≤ (1 : Int) ∧ 0 ≤ s5 ∧
      BIf (decide ((bitsI .and s5 (1 : Int)) = (1 : Int))) (
        0 ≤ (s5 / 2) ∧ 0 ≤ (3988292384 : Int) ∧ inR .u32 (s5 / 2) ∧ inR .u32 (3988292384 : Int) ∧
        inR .i64 (i6 + (1 : Int)) ∧
        (I3 ((bitsI .xor (s5 / 2) (3988292384 : Int))) ((i6 + (1 : Int))) w7 ∧ mu4 ((bitsI .xor (s5 / 2) (3988292384 : Int))) ((i6 + (1 : Int))) w7 < mu4 s5 i6 w7)) (
        inR .i64 (i6 + (1 : Int)) ∧
        (I3 ((s5 / 2)) ((i6 + (1 : Int))) w7 ∧ mu4 ((s5 / 2)) ((i6 + (1 : Int))) w7 < mu4 s5 i6 w7))) (
      K (Value.int .u32 s5) w7))

theorem sums_step_eq (s1 : Int) (c2 : Int) (w : World) (K : Value → World → Prop) : sums_step s1 c2 w K = denF Try.prog callB Try.f8 (.two .none (.two .none (.two (.two .none (.one (.loop [(0, (Sh.int .u32)), (10, (Sh.int .i64))] [5, 11, 12, 13, 14, 15, 16, 17, 18, 19, 20] .none))) .none))) [(Value.int .u32 s1), (Value.int .u8 c2)] w K := by kernel_rfl
theorem sums_step_ok (s1 : Int) (c2 : Int) {w : World} {R : Ending → World → Prop} (h : sums_step s1 c2 w fun v w' => R (.returned v) w') : Calls Try.prog fn_sums_step ⟨[(Value.int .u32 s1), (Value.int .u8 c2)]⟩ w R :=
  calls_of_den callB_ok mixed Try.func8 (sums_step_eq s1 c2 w _ ▸ h)

/-- tidewater/sums.Sum -/
def sums_Sum (parts1 : Slc) (w : World) (K : Value → World → Prop) : Prop :=
  ∃ (I2 : (Int) → (Int) → World → Prop) (mu3 : (Int) → (Int) → World → Nat), I2 ((4294967295 : Int)) ((0 : Int)) w ∧ (
  ∀ s4 : Int, ∀ i5 : Int, ∀ w6 : World, I2 s4 i5 w6 → ∀ u7 u8 u9 u10 u11 u12 u13 u14 u15 u16 u17 u18 u19 u20 u21 u22 : Value,
    BIf (decide (i5 < ((parts1.l : Nat) : Int))) (
      needSome parts1.p fun a23 =>
      0 ≤ i5 ∧ i5 < ((parts1.l : Nat) : Int) ∧
      ∃ s24 : Slc, World.cell? w6 (Addr.add a23 ((Int.toNat i5) * 1)) = some (Slc.v s24) ∧
      ∃ (I25 : (Int) → (Int) → World → Prop) (mu26 : (Int) → (Int) → World → Nat), I25 (s4) ((0 : Int)) w6 ∧ (
      ∀ s27 : Int, ∀ i28 : Int, ∀ w29 : World, I25 s27 i28 w29 → ∀ u30 u31 u32 u33 u34 u35 u36 u37 : Value,
        BIf (decide (i28 < ((s24.l : Nat) : Int))) (
          needSome s24.p fun a38 =>
          0 ≤ i28 ∧ i28 < ((s24.l : Nat) : Int) ∧
          ∃ n39 : Int, World.cell? w29 (Addr.add a38 ((Int.toNat i28) * 1)) = some (Value.int .u8 n39) ∧
          Calls Try.prog fn_sums_step ⟨[(Value.int .u32 s27), (Value.int .u8 n39)]⟩ w29 fun e40 w41 =>
          ∃ n42 : Int, e40 = .returned (Value.int .u32 n42) ∧
          inR .i64 (i28 + (1 : Int)) ∧
          (I25 (n42) ((i28 + (1 : Int))) w41 ∧ mu26 (n42) ((i28 + (1 : Int))) w41 < mu26 s27 i28 w29)) (
          inR .i64 (i5 + (1 : Int)) ∧
          (I2 (s27) ((i5 + (1 : Int))) w29 ∧ mu3 (s27) ((i5 + (1 : Int))) w29 < mu3 s4 i5 w6)))) (
      0 ≤ s4 ∧ inR .u32 s4 ∧
      K (Value.int .u32 (bitsI .xor (IntKind.max .u32) s4)) w6))

theorem sums_Sum_eq (parts1 : Slc) (w : World) (K : Value → World → Prop) : sums_Sum parts1 w K = denF Try.prog callB Try.f5 (.two .none (.two .none (.two (.two .none (.one (.loop [(3, (Sh.int .u32)), (10, (Sh.int .i64))] [5, 7, 11, 12, 13, 14, 15, 16, 17, 18, 19, 20, 21, 22, 23, 24] (.two .none (.two .none (.two (.one (.two .none (.two .none (.one (.loop [(3, (Sh.int .u32)), (16, (Sh.int .i64))] [7, 17, 18, 19, 20, 21, 22, 23] .none))))) .none)))))) .none))) [(Slc.v parts1)] w K := by kernel_rfl
theorem sums_Sum_ok (parts1 : Slc) {w : World} {R : Ending → World → Prop} (h : sums_Sum parts1 w fun v w' => R (.returned v) w') : Calls Try.prog fn_sums_Sum ⟨[(Slc.v parts1)]⟩ w R :=
  calls_of_den callB_ok mixed Try.func5 (sums_Sum_eq parts1 w _ ▸ h)

/-- tidewater/tidewaterref01.Sum -/
def tidewaterref01_Sum (b1 : Slc) (w : World) (K : Value → World → Prop) : Prop :=
  ∃ (I2 : (Int) → (Int) → World → Prop) (mu3 : (Int) → (Int) → World → Nat), I2 ((4294967295 : Int)) ((0 : Int)) w ∧ (
  ∀ rest4 : Int, ∀ i5 : Int, ∀ w6 : World, I2 rest4 i5 w6 → ∀ u7 u8 u9 u10 u11 u12 u13 u14 u15 u16 u17 u18 u19 u20 u21 u22 u23 u24 u25 u26 u27 u28 u29 u30 u31 u32 : Value,
    BIf (decide (i5 < ((b1.l : Nat) : Int))) (
      needSome b1.p fun a33 =>
      0 ≤ i5 ∧ i5 < ((b1.l : Nat) : Int) ∧
      ∃ n34 : Int, World.cell? w6 (Addr.add a33 ((Int.toNat i5) * 1)) = some (Value.int .u8 n34) ∧
      ∃ (I35 : (Int) → (Int) → World → Prop) (mu36 : (Int) → (Int) → World → Nat), I35 (rest4) ((0 : Int)) w6 ∧ (
      ∀ rest37 : Int, ∀ i38 : Int, ∀ w39 : World, I35 rest37 i38 w39 → ∀ u40 u41 u42 u43 u44 u45 u46 u47 u48 u49 u50 u51 u52 u53 u54 u55 u56 u57 u58 u59 : Value,
        BIf (decide (i38 < (8 : Int))) (
          inR .u32 n34 ∧
          0 ≤ (IntKind.wrap .u64 i38) ∧ 0 ≤ n34 ∧
          0 ≤ (n34 / ((2 ^ min (Int.toNat (IntKind.wrap .u64 i38)) 32 : Nat) : Int)) ∧ 0 ≤ (1 : Int) ∧ inR .u32 (n34 / ((2 ^ min (Int.toNat (IntKind.wrap .u64 i38)) 32 : Nat) : Int)) ∧ inR .u32 (1 : Int) ∧
          0 ≤ rest37 ∧ 0 ≤ (1 : Int) ∧ inR .u32 rest37 ∧ inR .u32 (1 : Int) ∧
          BIf (!decide ((bitsI .and rest37 (1 : Int)) = (bitsI .and (n34 / ((2 ^ min (Int.toNat (IntKind.wrap .u64 i38)) 32 : Nat) : Int)) (1 : Int)))) (
            0 ≤ (1 : Int) ∧ 0 ≤ rest37 ∧
            0 ≤ (rest37 / 2) ∧ 0 ≤ (3988292384 : Int) ∧ inR .u32 (rest37 / 2) ∧ inR .u32 (3988292384 : Int) ∧
            inR .i64 (i38 + (1 : Int)) ∧
            (I35 ((bitsI .xor (rest37 / 2) (3988292384 : Int))) ((i38 + (1 : Int))) w39 ∧ mu36 ((bitsI .xor (rest37 / 2) (3988292384 : Int))) ((i38 + (1 : Int))) w39 < mu36 rest37 i38 w39)) (
            0 ≤ (1 : Int) ∧ 0 ≤ rest37 ∧
            inR .i64 (i38 + (1 : Int)) ∧
            (I35 ((rest37 / 2)) ((i38 + (1 : Int))) w39 ∧ mu36 ((rest37 / 2)) ((i38 + (1 : Int))) w39 < mu36 rest37 i38 w39))) (
          inR .i64 (i5 + (1 : Int)) ∧
          (I2 (rest37) ((i5 + (1 : Int))) w39 ∧ mu3 (rest37) ((i5 + (1 : Int))) w39 < mu3 rest4 i5 w6)))) (
      0 ≤ rest4 ∧ 0 ≤ (4294967295 : Int) ∧ inR .u32 rest4 ∧ inR .u32 (4294967295 : Int) ∧
      K (Value.int .u32 (bitsI .xor rest4 (4294967295 : Int))) w6))

theorem tidewaterref01_Sum_eq (b1 : Slc) (w : World) (K : Value → World → Prop) : tidewaterref01_Sum b1 w K = denF Try.prog callB Try.f6 (.two .none (.two .none (.two (.two .none (.one (.loop [(3, (Sh.int .u32)), (10, (Sh.int .i64))] [5, 6, 7, 11, 12, 13, 14, 15, 16, 17, 18, 19, 20, 21, 22, 23, 24, 25, 26, 27, 28, 29, 30, 31, 32, 33] (.two .none (.two .none (.two (.one (.two .none (.two .none (.one (.loop [(3, (Sh.int .u32)), (6, (Sh.int .i64))] [7, 14, 15, 16, 17, 18, 19, 20, 21, 22, 23, 24, 25, 26, 27, 28, 29, 30, 31, 32] .none))))) .none)))))) .none))) [(Slc.v b1)] w K := by kernel_rfl
theorem tidewaterref01_Sum_ok (b1 : Slc) {w : World} {R : Ending → World → Prop} (h : tidewaterref01_Sum b1 w fun v w' => R (.returned v) w') : Calls Try.prog fn_tidewaterref01_Sum ⟨[(Slc.v b1)]⟩ w R :=
  calls_of_den callB_ok mixed Try.func6 (tidewaterref01_Sum_eq b1 w _ ▸ h)

/-- tidewater/sums.Size -/
def sums_Size (n1 : Int) (w : World) (K : Value → World → Prop) : Prop :=
  BIf (decide (n1 < (0 : Int))) (
    K (Value.int .i64 (0 : Int)) w) (
    BIf (decide ((2048 : Int) < n1)) (
      K (Value.int .i64 (0 : Int)) w) (
      inR .i64 ((6 : Int) + n1) ∧
      K (Value.int .i64 ((6 : Int) + n1)) w))

theorem sums_Size_eq (n1 : Int) (w : World) (K : Value → World → Prop) : sums_Size n1 w K = denF Try.prog callB Try.f7 .none [(Value.int .i64 n1)] w K := by kernel_rfl
theorem sums_Size_ok (n1 : Int) {w : World} {R : Ending → World → Prop} (h : sums_Size n1 w fun v w' => R (.returned v) w') : Calls Try.prog fn_sums_Size ⟨[(Value.int .i64 n1)]⟩ w R :=
  calls_of_den callB_ok mixed Try.func7 (sums_Size_eq n1 w _ ▸ h)

/-- tidewater/tidewaterlaw01.alive -/
def tidewaterlaw01_alive  (w : World) (K : Value → World → Prop) : Prop :=
  newS w (.cells ⟨[(Value.int .u8 (49 : Int)), (Value.int .u8 (50 : Int)), (Value.int .u8 (51 : Int)), (Value.int .u8 (52 : Int)), (Value.int .u8 (53 : Int)), (Value.int .u8 (54 : Int)), (Value.int .u8 (55 : Int)), (Value.int .u8 (56 : Int)), (Value.int .u8 (57 : Int))]⟩ 5) fun r1 w2 =>
  ∀ w4 : World, w4 = markW w2 r1 →
  newS w4 (.cells ⟨[(Slc.v (⟨(some (⟨r1, 0, none⟩ : Addr)), 9, 9⟩ : Slc))]⟩ 24) fun r5 w6 =>
  Calls Try.prog fn_sums_Sum ⟨[(Slc.v (⟨(some (⟨r5, 0, none⟩ : Addr)), 1, 1⟩ : Slc))]⟩ w6 fun e7 w8 =>
  ∃ n9 : Int, e7 = .returned (Value.int .u32 n9) ∧
  BIf (decide (n9 = (3421780262 : Int))) (
    Calls Try.prog fn_sums_Size ⟨[(Value.int .i64 (3 : Int))]⟩ w8 fun e10 w11 =>
    ∃ n12 : Int, e10 = .returned (Value.int .i64 n12) ∧
    K (Value.bool (decide (n12 = (9 : Int)))) w11) (
    K (Value.bool false) w8)

theorem tidewaterlaw01_alive_eq  (w : World) (K : Value → World → Prop) : tidewaterlaw01_alive  w K = denF Try.prog callB Try.f4 .none [] w K := by kernel_rfl
theorem tidewaterlaw01_alive_ok  {w : World} {R : Ending → World → Prop} (h : tidewaterlaw01_alive  w fun v w' => R (.returned v) w') : Calls Try.prog fn_tidewaterlaw01_alive ⟨[]⟩ w R :=
  calls_of_den callB_ok mixed Try.func4 (tidewaterlaw01_alive_eq  w _ ▸ h)

/-- tidewater/tidewaterlaw01.SumsSum -/
def tidewaterlaw01_SumsSum (parts1 : Slc) (w : World) (K : Value → World → Prop) : Prop :=
  Calls Try.prog fn_tidewaterlaw01_alive ⟨[]⟩ w fun e2 w3 =>
  ∃ b4 : Bool, e2 = .returned (Value.bool b4) ∧
  BIf (!b4) (
    K (Value.bool false) w3) (
    BIf (decide ((20 : Int) < ((parts1.l : Nat) : Int))) (
      K (Value.bool true) w3) (
      newS w3 (.cells ⟨[]⟩ 5) fun r5 w6 =>
      ∃ (I7 : (Slc) → (Int) → World → Prop) (mu8 : (Slc) → (Int) → World → Nat), I7 ((⟨(some (⟨r5, 0, none⟩ : Addr)), 0, 0⟩ : Slc)) ((0 : Int)) w6 ∧ (
      ∀ all9 : Slc, ∀ i10 : Int, ∀ w11 : World, I7 all9 i10 w11 → ∀ u12 u13 u14 u15 u16 u17 u18 u19 u20 u21 u22 u23 : Value,
        BIf (decide (i10 < ((parts1.l : Nat) : Int))) (
          needSome parts1.p fun a24 =>
          0 ≤ i10 ∧ i10 < ((parts1.l : Nat) : Int) ∧
          ∃ s25 : Slc, World.cell? w11 (Addr.add a24 ((Int.toNat i10) * 1)) = some (Slc.v s25) ∧
          BIf (decide ((300 : Int) < ((s25.l : Nat) : Int))) (
            K (Value.bool true) w11) (
            appendS 1 5 [(Value.int .u8 (0 : Int))] w11 all9 (.slc s25) fun s26 w27 =>
            inR .i64 (i10 + (1 : Int)) ∧
            (I7 (s26) ((i10 + (1 : Int))) w27 ∧ mu8 (s26) ((i10 + (1 : Int))) w27 < mu8 all9 i10 w11))) (
          Calls Try.prog fn_sums_Sum ⟨[(Slc.v parts1)]⟩ w11 fun e28 w29 =>
          ∃ n30 : Int, e28 = .returned (Value.int .u32 n30) ∧
          Calls Try.prog fn_tidewaterref01_Sum ⟨[(Slc.v all9)]⟩ w29 fun e31 w32 =>
          ∃ n33 : Int, e31 = .returned (Value.int .u32 n33) ∧
          BIf (decide (n30 = n33)) (
            newS w32 (.cells ⟨[(Slc.v all9)]⟩ 24) fun r34 w35 =>
            Calls Try.prog fn_sums_Sum ⟨[(Slc.v (⟨(some (⟨r34, 0, none⟩ : Addr)), 1, 1⟩ : Slc))]⟩ w35 fun e36 w37 =>
            ∃ n38 : Int, e36 = .returned (Value.int .u32 n38) ∧
            Calls Try.prog fn_tidewaterref01_Sum ⟨[(Slc.v all9)]⟩ w37 fun e39 w40 =>
            ∃ n41 : Int, e39 = .returned (Value.int .u32 n41) ∧
            K (Value.bool (decide (n38 = n41))) w40) (
            K (Value.bool false) w32)))))

theorem tidewaterlaw01_SumsSum_eq (parts1 : Slc) (w : World) (K : Value → World → Prop) : tidewaterlaw01_SumsSum parts1 w K = denF Try.prog callB Try.f3 (.two .none (.two .none (.two .none (.two .none (.two (.two .none (.one (.loop [(3, Sh.slc), (14, (Sh.int .i64))] [2, 5, 15, 16, 17, 18, 19, 20, 21, 22, 23, 24] .none))) .none))))) [(Slc.v parts1)] w K := by kernel_rfl
theorem tidewaterlaw01_SumsSum_ok (parts1 : Slc) {w : World} {R : Ending → World → Prop} (h : tidewaterlaw01_SumsSum parts1 w fun v w' => R (.returned v) w') : Calls Try.prog fn_tidewaterlaw01_SumsSum ⟨[(Slc.v parts1)]⟩ w R :=
  calls_of_den callB_ok mixed Try.func3 (tidewaterlaw01_SumsSum_eq parts1 w _ ▸ h)

end Go.D
