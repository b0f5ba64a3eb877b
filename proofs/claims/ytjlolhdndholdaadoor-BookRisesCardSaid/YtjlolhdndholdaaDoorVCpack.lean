/-
  WHAT IS PROVED: verification conditions of functions of this program, each with its soundness. No further conditions.
-/
import Derived.Test.YtjlolhdndholdaaDoorBase
set_option linter.unusedSimpArgs false
set_option maxRecDepth 100000
set_option linter.unusedVariables false
namespace Go.D
open Go Go.Proofs
/-- (*tidewater/pack.Out).fail -/
def pack_Out_fail (o1 : Option Addr) (err2 : Value) (w : World) (K : Value → World → Prop) : Prop :=
  needSome o1 fun a3 =>
  ∃ v4 : Value, World.cell? w (a3.add 1) = some v4 ∧
  isI v4 ∧
  BIf (isNilI v4) (
    needSome o1 fun a5 =>
    oneK err2 (
    oneK err2 (
    canW w (a5.add 1) 1 ∧ ∀ w6 : World, w6 = World.setCell w (a5.add 1) err2 →
    K (Value.tuple #[]) w6))) (
    K (Value.tuple #[]) w)

theorem pack_Out_fail_eq (o1 : Option Addr) (err2 : Value) (w : World) (K : Value → World → Prop) : pack_Out_fail o1 err2 w K = denF Tryd.prog callB Tryd.f61 .none [(Value.pointer o1), err2] w K := by kernel_rfl
theorem pack_Out_fail_ok (o1 : Option Addr) (err2 : Value) {w : World} {R : Ending → World → Prop} (h : pack_Out_fail o1 err2 w fun v w' => R (.returned v) w') : Calls Tryd.prog fn_pack_Out_fail ⟨[(Value.pointer o1), err2]⟩ w R :=
  calls_of_den callB_ok mixed Tryd.func61 (pack_Out_fail_eq o1 err2 w _ ▸ h)

/-- (*tidewater/pack.Out).Num -/
def pack_Out_Num (o1 : Option Addr) (n2 : Int) (w : World) (K : Value → World → Prop) : Prop :=
  ∃ J3 : World → Prop,
  (
    BIf (decide (n2 < (0 : Int))) (
      ∃ v4 : Value, World.cell? w (⟨gl_ErrRange, 0, none⟩ : Addr) = some v4 ∧
      Calls Tryd.prog fn_pack_Out_fail ⟨[(Value.pointer o1), v4]⟩ w fun e5 w6 =>
      e5 = .returned (Value.tuple #[]) ∧
      K (Value.tuple #[]) w6) (
      BIf (decide ((4611686018427387903 : Int) < n2)) (
        ∃ v7 : Value, World.cell? w (⟨gl_ErrRange, 0, none⟩ : Addr) = some v7 ∧
        Calls Tryd.prog fn_pack_Out_fail ⟨[(Value.pointer o1), v7]⟩ w fun e8 w9 =>
        e8 = .returned (Value.tuple #[]) ∧
        K (Value.tuple #[]) w9) (
        J3 w))) ∧ (
  ∀ w10 : World, J3 w10 → ∀ u11 u12 u13 u14 u15 u16 u17 u18 u19 : Value,
    ∃ (I20 : (Int) → World → Prop) (mu21 : (Int) → World → Nat), I20 (n2) w10 ∧ (
    ∀ n22 : Int, ∀ w23 : World, I20 n22 w23 → ∀ u24 u25 u26 u27 u28 u29 u30 u31 u32 u33 u34 u35 u36 u37 u38 u39 u40 : Value,
      BIf (decide ((128 : Int) ≤ n22)) (
        needSome o1 fun a41 =>
        ∃ s42 : Slc, World.cell? w23 a41 = some (Slc.v s42) ∧
        0 ≤ n22 ∧ 0 < (128 : Int) ∧
        inR .i64 ((n22 % (128 : Int)) + (128 : Int)) ∧
        newS w23 (.cells ⟨[(Value.int .u8 (IntKind.wrap .u8 ((n22 % (128 : Int)) + (128 : Int))))]⟩ 5) fun r43 w44 =>
        appendS 1 5 [(Value.int .u8 (0 : Int))] w44 s42 (.slc (⟨(some (⟨r43, 0, none⟩ : Addr)), 1, 1⟩ : Slc)) fun s45 w46 =>
        needSome o1 fun a47 =>
        canW w46 a47 1 ∧ ∀ w48 : World, w48 = World.setCell w46 a47 (Slc.v s45) →
        0 ≤ (7 : Int) ∧ 0 ≤ n22 ∧
        (I20 ((n22 / 128)) w48 ∧ mu21 ((n22 / 128)) w48 < mu21 n22 w23)) (
        needSome o1 fun a49 =>
        ∃ s50 : Slc, World.cell? w23 a49 = some (Slc.v s50) ∧
        newS w23 (.cells ⟨[(Value.int .u8 (IntKind.wrap .u8 n22))]⟩ 5) fun r51 w52 =>
        appendS 1 5 [(Value.int .u8 (0 : Int))] w52 s50 (.slc (⟨(some (⟨r51, 0, none⟩ : Addr)), 1, 1⟩ : Slc)) fun s53 w54 =>
        needSome o1 fun a55 =>
        canW w54 a55 1 ∧ ∀ w56 : World, w56 = World.setCell w54 a55 (Slc.v s53) →
        K (Value.tuple #[]) w56)))

theorem pack_Out_Num_eq (o1 : Option Addr) (n2 : Int) (w : World) (K : Value → World → Prop) : pack_Out_Num o1 n2 w K = denF Tryd.prog callB Tryd.f44 (.cut [] [4, 5, 6, 7, 8, 9, 10, 11, 12] .none (.two (.one (.loop [(1, (Sh.int .i64))] [13, 14, 15, 16, 17, 18, 19, 20, 21, 22, 23, 24, 25, 26, 27, 28, 29] .none)) .none)) [(Value.pointer o1), (Value.int .i64 n2)] w K := by kernel_rfl
theorem pack_Out_Num_ok (o1 : Option Addr) (n2 : Int) {w : World} {R : Ending → World → Prop} (h : pack_Out_Num o1 n2 w fun v w' => R (.returned v) w') : Calls Tryd.prog fn_pack_Out_Num ⟨[(Value.pointer o1), (Value.int .i64 n2)]⟩ w R :=
  calls_of_den callB_ok mixed Tryd.func44 (pack_Out_Num_eq o1 n2 w _ ▸ h)

/-- (*tidewater/pack.Out).Nums -/
def pack_Out_Nums (o1 : Option Addr) (list2 : Slc) (w : World) (K : Value → World → Prop) : Prop :=
  Calls Tryd.prog fn_pack_Out_Num ⟨[(Value.pointer o1), (Value.int .i64 ((list2.l : Nat) : Int))]⟩ w fun e3 w4 =>
  e3 = .returned (Value.tuple #[]) ∧
  ∃ (I5 : (Int) → World → Prop) (mu6 : (Int) → World → Nat), I5 ((0 : Int)) w4 ∧ (
  ∀ i7 : Int, ∀ w8 : World, I5 i7 w8 → ∀ u9 u10 u11 u12 u13 u14 u15 u16 : Value,
    BIf (decide (i7 < ((list2.l : Nat) : Int))) (
      needSome list2.p fun a17 =>
      0 ≤ i7 ∧ i7 < ((list2.l : Nat) : Int) ∧
      ∃ n18 : Int, World.cell? w8 (Addr.add a17 ((Int.toNat i7) * 1)) = some (Value.int .i64 n18) ∧
      Calls Tryd.prog fn_pack_Out_Num ⟨[(Value.pointer o1), (Value.int .i64 n18)]⟩ w8 fun e19 w20 =>
      e19 = .returned (Value.tuple #[]) ∧
      inR .i64 (i7 + (1 : Int)) ∧
      (I5 ((i7 + (1 : Int))) w20 ∧ mu6 ((i7 + (1 : Int))) w20 < mu6 i7 w8)) (
      K (Value.tuple #[]) w8))

theorem pack_Out_Nums_eq (o1 : Option Addr) (list2 : Slc) (w : World) (K : Value → World → Prop) : pack_Out_Nums o1 list2 w K = denF Tryd.prog callB Tryd.f45 (.two .none (.two .none (.one (.loop [(12, (Sh.int .i64))] [5, 13, 14, 15, 16, 17, 18, 19] .none)))) [(Value.pointer o1), (Slc.v list2)] w K := by kernel_rfl
theorem pack_Out_Nums_ok (o1 : Option Addr) (list2 : Slc) {w : World} {R : Ending → World → Prop} (h : pack_Out_Nums o1 list2 w fun v w' => R (.returned v) w') : Calls Tryd.prog fn_pack_Out_Nums ⟨[(Value.pointer o1), (Slc.v list2)]⟩ w R :=
  calls_of_den callB_ok mixed Tryd.func45 (pack_Out_Nums_eq o1 list2 w _ ▸ h)

/-- (*tidewater/pack.Out).Done -/
def pack_Out_Done (o1 : Option Addr) (w : World) (K : Value → World → Prop) : Prop :=
  needSome o1 fun a2 =>
  ∃ v3 : Value, World.cell? w (a2.add 1) = some v3 ∧
  isI v3 ∧
  BIf (!isNilI v3) (
    needSome o1 fun a4 =>
    ∃ v5 : Value, World.cell? (World.drew w) (a4.add 1) = some v5 ∧
    K (Value.tuple ⟨[(Slc.v (⟨none, 0, 0⟩ : Slc)), v5]⟩) (World.drew w)) (
    needSome o1 fun a6 =>
    ∃ s7 : Slc, World.cell? w a6 = some (Slc.v s7) ∧
    BIf (decide ((65536 : Int) < ((s7.l : Nat) : Int))) (
      ∃ v8 : Value, World.cell? (World.drew w) (⟨gl_ErrLong, 0, none⟩ : Addr) = some v8 ∧
      K (Value.tuple ⟨[(Slc.v (⟨none, 0, 0⟩ : Slc)), v8]⟩) (World.drew w)) (
      needSome o1 fun a9 =>
      ∃ s10 : Slc, World.cell? w a9 = some (Slc.v s10) ∧
      Calls Tryd.prog fn_slices_Clone_byte ⟨[(Slc.v s10)]⟩ w fun e11 w12 =>
      ∃ s13 : Slc, e11 = .returned (Slc.v s13) ∧
      K (Value.tuple ⟨[(Slc.v s13), Value.nilIface]⟩) w12))

theorem pack_Out_Done_eq (o1 : Option Addr) (w : World) (K : Value → World → Prop) : pack_Out_Done o1 w K = denF Tryd.prog callB Tryd.f46 .none [(Value.pointer o1)] w K := by kernel_rfl
theorem pack_Out_Done_ok (o1 : Option Addr) {w : World} {R : Ending → World → Prop} (h : pack_Out_Done o1 w fun v w' => R (.returned v) w') : Calls Tryd.prog fn_pack_Out_Done ⟨[(Value.pointer o1)]⟩ w R :=
  calls_of_den callB_ok mixed Tryd.func46 (pack_Out_Done_eq o1 w _ ▸ h)

/-- tidewater/pack.Read -/
def pack_Read (b1 : Slc) (w : World) (K : Value → World → Prop) : Prop :=
  Calls Tryd.prog fn_slices_Clone_byte ⟨[(Slc.v b1)]⟩ w fun e2 w3 =>
  ∃ s4 : Slc, e2 = .returned (Slc.v s4) ∧
  newS w3 (.cells ⟨[(Slc.v s4), Value.nilIface]⟩ 122) fun r5 w6 =>
  K (Value.pointer (some (⟨r5, 0, none⟩ : Addr))) w6

theorem pack_Read_eq (b1 : Slc) (w : World) (K : Value → World → Prop) : pack_Read b1 w K = denF Tryd.prog callB Tryd.f51 .none [(Slc.v b1)] w K := by kernel_rfl
theorem pack_Read_ok (b1 : Slc) {w : World} {R : Ending → World → Prop} (h : pack_Read b1 w fun v w' => R (.returned v) w') : Calls Tryd.prog fn_pack_Read ⟨[(Slc.v b1)]⟩ w R :=
  calls_of_den callB_ok mixed Tryd.func51 (pack_Read_eq b1 w _ ▸ h)

/-- (*tidewater/pack.In).fail -/
def pack_In_fail (i1 : Option Addr) (err2 : Value) (w : World) (K : Value → World → Prop) : Prop :=
  needSome i1 fun a3 =>
  ∃ v4 : Value, World.cell? w (a3.add 1) = some v4 ∧
  isI v4 ∧
  BIf (isNilI v4) (
    needSome i1 fun a5 =>
    oneK err2 (
    oneK err2 (
    canW w (a5.add 1) 1 ∧ ∀ w6 : World, w6 = World.setCell w (a5.add 1) err2 →
    K (Value.int .i64 (0 : Int)) w6))) (
    K (Value.int .i64 (0 : Int)) w)

theorem pack_In_fail_eq (i1 : Option Addr) (err2 : Value) (w : World) (K : Value → World → Prop) : pack_In_fail i1 err2 w K = denF Tryd.prog callB Tryd.f66 .none [(Value.pointer i1), err2] w K := by kernel_rfl
theorem pack_In_fail_ok (i1 : Option Addr) (err2 : Value) {w : World} {R : Ending → World → Prop} (h : pack_In_fail i1 err2 w fun v w' => R (.returned v) w') : Calls Tryd.prog fn_pack_In_fail ⟨[(Value.pointer i1), err2]⟩ w R :=
  calls_of_den callB_ok mixed Tryd.func66 (pack_In_fail_eq i1 err2 w _ ▸ h)

/-- (*tidewater/pack.In).raw -/
def pack_In_raw (i1 : Option Addr) (w : World) (K : Value → World → Prop) : Prop :=
  needSome i1 fun a2 =>
  ∃ s3 : Slc, World.cell? w a2 = some (Slc.v s3) ∧
  ∃ (I4 : (Int) → (Int) → World → Prop) (mu5 : (Int) → (Int) → World → Nat), I4 ((0 : Int)) ((0 : Int)) w ∧ (
  ∀ n6 : Int, ∀ i7 : Int, ∀ w8 : World, I4 n6 i7 w8 → ∀ u9 u10 u11 u12 u13 u14 u15 u16 u17 u18 u19 u20 u21 u22 u23 u24 u25 u26 u27 u28 u29 u30 u31 u32 u33 u34 u35 u36 u37 u38 u39 u40 u41 u42 u43 u44 u45 u46 u47 u48 u49 u50 u51 u52 u53 u54 u55 u56 u57 u58 u59 u60 u61 u62 : Value,
    BIf (decide (i7 < ((s3.l : Nat) : Int))) (
      needSome s3.p fun a63 =>
      0 ≤ i7 ∧ i7 < ((s3.l : Nat) : Int) ∧
      ∃ n64 : Int, World.cell? w8 (Addr.add a63 ((Int.toNat i7) * 1)) = some (Value.int .u8 n64) ∧
      0 ≤ n64 ∧ 0 < (128 : Int) ∧
      inR .i64 (n64 % (128 : Int)) ∧
      inR .i64 ((7 : Int) * i7) ∧
      0 ≤ ((7 : Int) * i7) ∧
      inR .i64 ((n64 % (128 : Int)) * ((2 ^ min (Int.toNat ((7 : Int) * i7)) 64 : Nat) : Int)) ∧
      0 ≤ n6 ∧ 0 ≤ ((n64 % (128 : Int)) * ((2 ^ min (Int.toNat ((7 : Int) * i7)) 64 : Nat) : Int)) ∧ inR .i64 n6 ∧ inR .i64 ((n64 % (128 : Int)) * ((2 ^ min (Int.toNat ((7 : Int) * i7)) 64 : Nat) : Int)) ∧
      ∃ J65 : World → Prop,
      (
        BIf (decide ((128 : Int) ≤ n64)) (
          BIf (decide (i7 < (8 : Int))) (
            inR .i64 (i7 + (1 : Int)) ∧
            (I4 ((bitsI .or n6 ((n64 % (128 : Int)) * ((2 ^ min (Int.toNat ((7 : Int) * i7)) 64 : Nat) : Int)))) ((i7 + (1 : Int))) w8 ∧ mu5 ((bitsI .or n6 ((n64 % (128 : Int)) * ((2 ^ min (Int.toNat ((7 : Int) * i7)) 64 : Nat) : Int)))) ((i7 + (1 : Int))) w8 < mu5 n6 i7 w8)) (
            J65 w8)) (
          J65 w8)) ∧ (
      ∀ w66 : World, J65 w66 → ∀ u67 u68 u69 u70 u71 u72 : Value,
        BIf (decide ((128 : Int) ≤ n64)) (
          ∃ v73 : Value, World.cell? w66 (⟨gl_ErrForm, 0, none⟩ : Addr) = some v73 ∧
          Calls Tryd.prog fn_pack_In_fail ⟨[(Value.pointer i1), v73]⟩ w66 fun e74 w75 =>
          ∃ n76 : Int, e74 = .returned (Value.int .i64 n76) ∧
          K (Value.int .i64 n76) w75) (
          BIf (decide (n64 = (0 : Int))) (
            BIf (decide ((0 : Int) < i7)) (
              ∃ v77 : Value, World.cell? w66 (⟨gl_ErrForm, 0, none⟩ : Addr) = some v77 ∧
              Calls Tryd.prog fn_pack_In_fail ⟨[(Value.pointer i1), v77]⟩ w66 fun e78 w79 =>
              ∃ n80 : Int, e78 = .returned (Value.int .i64 n80) ∧
              K (Value.int .i64 n80) w79) (
              BIf (decide ((4611686018427387903 : Int) < (bitsI .or n6 ((n64 % (128 : Int)) * ((2 ^ min (Int.toNat ((7 : Int) * i7)) 64 : Nat) : Int))))) (
                ∃ v81 : Value, World.cell? w66 (⟨gl_ErrForm, 0, none⟩ : Addr) = some v81 ∧
                Calls Tryd.prog fn_pack_In_fail ⟨[(Value.pointer i1), v81]⟩ w66 fun e82 w83 =>
                ∃ n84 : Int, e82 = .returned (Value.int .i64 n84) ∧
                K (Value.int .i64 n84) w83) (
                BIf (decide ((bitsI .or n6 ((n64 % (128 : Int)) * ((2 ^ min (Int.toNat ((7 : Int) * i7)) 64 : Nat) : Int))) < (0 : Int))) (
                  ∃ v85 : Value, World.cell? w66 (⟨gl_ErrForm, 0, none⟩ : Addr) = some v85 ∧
                  Calls Tryd.prog fn_pack_In_fail ⟨[(Value.pointer i1), v85]⟩ w66 fun e86 w87 =>
                  ∃ n88 : Int, e86 = .returned (Value.int .i64 n88) ∧
                  K (Value.int .i64 n88) w87) (
                  needSome i1 fun a89 =>
                  ∃ s90 : Slc, World.cell? w66 a89 = some (Slc.v s90) ∧
                  inR .i64 (i7 + (1 : Int)) ∧
                  0 ≤ (i7 + (1 : Int)) ∧ (i7 + (1 : Int)) ≤ ((s90.l : Nat) : Int) ∧ ((s90.l : Nat) : Int) ≤ ((s90.c : Nat) : Int) ∧ ((s90.c : Nat) : Int) ≤ ((s90.c : Nat) : Int) ∧
                  needSome i1 fun a92 =>
                  canW w66 a92 1 ∧ ∀ w93 : World, w93 = World.setCell w66 a92 (Slc.v (Slc.sub s90 1 (Int.toNat (i7 + (1 : Int))) s90.l s90.c)) →
                  K (Value.int .i64 (bitsI .or n6 ((n64 % (128 : Int)) * ((2 ^ min (Int.toNat ((7 : Int) * i7)) 64 : Nat) : Int)))) w93)))) (
            BIf (decide ((4611686018427387903 : Int) < (bitsI .or n6 ((n64 % (128 : Int)) * ((2 ^ min (Int.toNat ((7 : Int) * i7)) 64 : Nat) : Int))))) (
              ∃ v94 : Value, World.cell? w66 (⟨gl_ErrForm, 0, none⟩ : Addr) = some v94 ∧
              Calls Tryd.prog fn_pack_In_fail ⟨[(Value.pointer i1), v94]⟩ w66 fun e95 w96 =>
              ∃ n97 : Int, e95 = .returned (Value.int .i64 n97) ∧
              K (Value.int .i64 n97) w96) (
              BIf (decide ((bitsI .or n6 ((n64 % (128 : Int)) * ((2 ^ min (Int.toNat ((7 : Int) * i7)) 64 : Nat) : Int))) < (0 : Int))) (
                ∃ v98 : Value, World.cell? w66 (⟨gl_ErrForm, 0, none⟩ : Addr) = some v98 ∧
                Calls Tryd.prog fn_pack_In_fail ⟨[(Value.pointer i1), v98]⟩ w66 fun e99 w100 =>
                ∃ n101 : Int, e99 = .returned (Value.int .i64 n101) ∧
                K (Value.int .i64 n101) w100) (
                needSome i1 fun a102 =>
                ∃ s103 : Slc, World.cell? w66 a102 = some (Slc.v s103) ∧
                inR .i64 (i7 + (1 : Int)) ∧
                0 ≤ (i7 + (1 : Int)) ∧ (i7 + (1 : Int)) ≤ ((s103.l : Nat) : Int) ∧ ((s103.l : Nat) : Int) ≤ ((s103.c : Nat) : Int) ∧ ((s103.c : Nat) : Int) ≤ ((s103.c : Nat) : Int) ∧
                needSome i1 fun a105 =>
                canW w66 a105 1 ∧ ∀ w106 : World, w106 = World.setCell w66 a105 (Slc.v (Slc.sub s103 1 (Int.toNat (i7 + (1 : Int))) s103.l s103.c)) →
                K (Value.int .i64 (bitsI .or n6 ((n64 % (128 : Int)) * ((2 ^ min (Int.toNat ((7 : Int) * i7)) 64 : Nat) : Int)))) w106)))))) (
      ∃ v107 : Value, World.cell? w8 (⟨gl_ErrShort, 0, none⟩ : Addr) = some v107 ∧
      Calls Tryd.prog fn_pack_In_fail ⟨[(Value.pointer i1), v107]⟩ w8 fun e108 w109 =>
      ∃ n110 : Int, e108 = .returned (Value.int .i64 n110) ∧
      K (Value.int .i64 n110) w109))

theorem pack_In_raw_eq (i1 : Option Addr) (w : World) (K : Value → World → Prop) : pack_In_raw i1 w K = denF Tryd.prog callB Tryd.f65 (.two .none (.two .none (.two (.two .none (.one (.loop [(3, (Sh.int .i64)), (11, (Sh.int .i64))] [2, 4, 5, 12, 13, 14, 15, 16, 17, 18, 19, 20, 21, 22, 23, 24, 25, 26, 27, 28, 29, 30, 31, 32, 33, 34, 35, 36, 37, 38, 39, 40, 41, 42, 43, 44, 45, 46, 47, 48, 49, 50, 51, 52, 53, 54, 55, 56, 57, 58, 59, 60, 61, 62] (.two .none (.two .none (.two (.one (.two .none (.two .none (.cut [] [24, 25, 26, 27, 28, 29] .none .none)))) .none)))))) .none))) [(Value.pointer i1)] w K := by kernel_rfl
theorem pack_In_raw_ok (i1 : Option Addr) {w : World} {R : Ending → World → Prop} (h : pack_In_raw i1 w fun v w' => R (.returned v) w') : Calls Tryd.prog fn_pack_In_raw ⟨[(Value.pointer i1)]⟩ w R :=
  calls_of_den callB_ok mixed Tryd.func65 (pack_In_raw_eq i1 w _ ▸ h)

/-- (*tidewater/pack.In).Num -/
def pack_In_Num (i1 : Option Addr) (most2 : Int) (w : World) (K : Value → World → Prop) : Prop :=
  needSome i1 fun a3 =>
  ∃ v4 : Value, World.cell? w (a3.add 1) = some v4 ∧
  isI v4 ∧
  BIf (!isNilI v4) (
    K (Value.int .i64 (0 : Int)) w) (
    Calls Tryd.prog fn_pack_In_raw ⟨[(Value.pointer i1)]⟩ w fun e5 w6 =>
    ∃ n7 : Int, e5 = .returned (Value.int .i64 n7) ∧
    needSome i1 fun a8 =>
    ∃ v9 : Value, World.cell? w6 (a8.add 1) = some v9 ∧
    isI v9 ∧
    BIf (isNilI v9) (
      BIf (decide (most2 < n7)) (
        ∃ v10 : Value, World.cell? w6 (⟨gl_ErrRange, 0, none⟩ : Addr) = some v10 ∧
        Calls Tryd.prog fn_pack_In_fail ⟨[(Value.pointer i1), v10]⟩ w6 fun e11 w12 =>
        ∃ n13 : Int, e11 = .returned (Value.int .i64 n13) ∧
        K (Value.int .i64 n13) w12) (
        K (Value.int .i64 n7) w6)) (
      K (Value.int .i64 n7) w6))

theorem pack_In_Num_eq (i1 : Option Addr) (most2 : Int) (w : World) (K : Value → World → Prop) : pack_In_Num i1 most2 w K = denF Tryd.prog callB Tryd.f52 .none [(Value.pointer i1), (Value.int .i64 most2)] w K := by kernel_rfl
theorem pack_In_Num_ok (i1 : Option Addr) (most2 : Int) {w : World} {R : Ending → World → Prop} (h : pack_In_Num i1 most2 w fun v w' => R (.returned v) w') : Calls Tryd.prog fn_pack_In_Num ⟨[(Value.pointer i1), (Value.int .i64 most2)]⟩ w R :=
  calls_of_den callB_ok mixed Tryd.func52 (pack_In_Num_eq i1 most2 w _ ▸ h)

/-- (*tidewater/pack.In).Nums -/
def pack_In_Nums (i1 : Option Addr) (many2 : Int) (most3 : Int) (w : World) (K : Value → World → Prop) : Prop :=
  Calls Tryd.prog fn_pack_In_Num ⟨[(Value.pointer i1), (Value.int .i64 many2)]⟩ w fun e4 w5 =>
  ∃ n6 : Int, e4 = .returned (Value.int .i64 n6) ∧
  ∃ (I7 : (Slc) → World → Prop) (mu8 : (Slc) → World → Nat), I7 ((⟨none, 0, 0⟩ : Slc)) w5 ∧ (
  ∀ out9 : Slc, ∀ w10 : World, I7 out9 w10 → ∀ u11 u12 u13 u14 u15 u16 u17 u18 u19 u20 u21 u22 u23 u24 u25 u26 u27 u28 : Value,
    BIf (decide (((out9.l : Nat) : Int) < n6)) (
      Calls Tryd.prog fn_pack_In_Num ⟨[(Value.pointer i1), (Value.int .i64 most3)]⟩ w10 fun e29 w30 =>
      ∃ n31 : Int, e29 = .returned (Value.int .i64 n31) ∧
      needSome i1 fun a32 =>
      ∃ v33 : Value, World.cell? w30 (a32.add 1) = some v33 ∧
      isI v33 ∧
      BIf (!isNilI v33) (
        K (Slc.v (⟨none, 0, 0⟩ : Slc)) w30) (
        newS w30 (.cells ⟨[(Value.int .i64 n31)]⟩ 3) fun r34 w35 =>
        appendS 1 3 [(Value.int .i64 (0 : Int))] w35 out9 (.slc (⟨(some (⟨r34, 0, none⟩ : Addr)), 1, 1⟩ : Slc)) fun s36 w37 =>
        (I7 (s36) w37 ∧ mu8 (s36) w37 < mu8 out9 w10))) (
      K (Slc.v out9) w10))

theorem pack_In_Nums_eq (i1 : Option Addr) (many2 : Int) (most3 : Int) (w : World) (K : Value → World → Prop) : pack_In_Nums i1 many2 most3 w K = denF Tryd.prog callB Tryd.f53 (.two .none (.two .none (.two (.two .none (.one (.loop [(7, Sh.slc)] [6, 9, 13, 14, 15, 16, 17, 18, 19, 20, 21, 22, 23, 24, 25, 26, 27, 28] .none))) .none))) [(Value.pointer i1), (Value.int .i64 many2), (Value.int .i64 most3)] w K := by kernel_rfl
theorem pack_In_Nums_ok (i1 : Option Addr) (many2 : Int) (most3 : Int) {w : World} {R : Ending → World → Prop} (h : pack_In_Nums i1 many2 most3 w fun v w' => R (.returned v) w') : Calls Tryd.prog fn_pack_In_Nums ⟨[(Value.pointer i1), (Value.int .i64 many2), (Value.int .i64 most3)]⟩ w R :=
  calls_of_den callB_ok mixed Tryd.func53 (pack_In_Nums_eq i1 many2 most3 w _ ▸ h)

/-- (*tidewater/pack.In).End -/
def pack_In_End (i1 : Option Addr) (w : World) (K : Value → World → Prop) : Prop :=
  needSome i1 fun a2 =>
  ∃ v3 : Value, World.cell? w (a2.add 1) = some v3 ∧
  isI v3 ∧
  BIf (isNilI v3) (
    needSome i1 fun a4 =>
    ∃ s5 : Slc, World.cell? w a4 = some (Slc.v s5) ∧
    BIf (decide ((0 : Int) < ((s5.l : Nat) : Int))) (
      ∃ v6 : Value, World.cell? w (⟨gl_ErrForm, 0, none⟩ : Addr) = some v6 ∧
      K v6 w) (
      needSome i1 fun a7 =>
      ∃ v8 : Value, World.cell? w (a7.add 1) = some v8 ∧
      K v8 w)) (
    needSome i1 fun a9 =>
    ∃ v10 : Value, World.cell? w (a9.add 1) = some v10 ∧
    K v10 w)

theorem pack_In_End_eq (i1 : Option Addr) (w : World) (K : Value → World → Prop) : pack_In_End i1 w K = denF Tryd.prog callB Tryd.f54 .none [(Value.pointer i1)] w K := by kernel_rfl
theorem pack_In_End_ok (i1 : Option Addr) {w : World} {R : Ending → World → Prop} (h : pack_In_End i1 w fun v w' => R (.returned v) w') : Calls Tryd.prog fn_pack_In_End ⟨[(Value.pointer i1)]⟩ w R :=
  calls_of_den callB_ok mixed Tryd.func54 (pack_In_End_eq i1 w _ ▸ h)

end Go.D
