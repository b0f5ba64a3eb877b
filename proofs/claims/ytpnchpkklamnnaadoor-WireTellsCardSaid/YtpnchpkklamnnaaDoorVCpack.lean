/-
  WHAT IS PROVED: verification conditions of functions of this program, each with its soundness. No further conditions.
-/
import Derived.Test.YtpnchpkklamnnaaDoorBase
set_option linter.unusedSimpArgs false
set_option maxRecDepth 100000
set_option linter.unusedVariables false
namespace Go.D
open Go Go.Proofs
/-- (*tidewater/pack.Out).fail -/
def pack_Out_fail (o1 : Option Addr) (err2 : Value) (w : World) (K : Value → World → Prop) : Prop :=
  needSome o1 fun a3 =>
  ∃ v4 : Value, World.cell? w (a3.add 1) = some v4 ∧
  isI v4 ∧
  BIf (isNilI v4) (
    needSome o1 fun a5 =>
    oneK err2 (
    oneK err2 (
    canW w (a5.add 1) 1 ∧ ∀ w6 : World, w6 = World.setCell w (a5.add 1) err2 →
    K (Value.tuple #[]) w6))) (
    K (Value.tuple #[]) w)

theorem pack_Out_fail_eq (o1 : Option Addr) (err2 : Value) (w : World) (K : Value → World → Prop) : pack_Out_fail o1 err2 w K = denF Tryd.prog callB Tryd.f72 .none [(Value.pointer o1), err2] w K := by kernel_rfl
theorem pack_Out_fail_ok (o1 : Option Addr) (err2 : Value) {w : World} {R : Ending → World → Prop} (h : pack_Out_fail o1 err2 w fun v w' => R (.returned v) w') : Calls Tryd.prog fn_pack_Out_fail ⟨[(Value.pointer o1), err2]⟩ w R :=
  calls_of_den callB_ok mixed Tryd.func72 (pack_Out_fail_eq o1 err2 w _ ▸ h)

/-- (*tidewater/pack.Out).Num -/
def pack_Out_Num (o1 : Option Addr) (n2 : Int) (w : World) (K : Value → World → Prop) : Prop :=
  ∃ J3 : World → Prop,
  (
    BIf (decide (n2 < (0 : Int))) (
      ∃ v4 : Value, World.cell? w (⟨gl_ErrRange, 0, none⟩ : Addr) = some v4 ∧
      Calls Tryd.prog fn_pack_Out_fail ⟨[(Value.pointer o1), v4]⟩ w fun e5 w6 =>
      e5 = .returned (Value.tuple #[]) ∧
      K (Value.tuple #[]) w6) (
      BIf (decide ((4611686018427387903 : Int) < n2)) (
        ∃ v7 : Value, World.cell? w (⟨gl_ErrRange, 0, none⟩ : Addr) = some v7 ∧
        Calls Tryd.prog fn_pack_Out_fail ⟨[(Value.pointer o1), v7]⟩ w fun e8 w9 =>
        e8 = .returned (Value.tuple #[]) ∧
        K (Value.tuple #[]) w9) (
        J3 w))) ∧ (
  ∀ w10 : World, J3 w10 → ∀ u11 u12 u13 u14 u15 u16 u17 u18 u19 : Value,
    ∃ (I20 : (Int) → World → Prop) (mu21 : (Int) → World → Nat), I20 (n2) w10 ∧ (
    ∀ n22 : Int, ∀ w23 : World, I20 n22 w23 → ∀ u24 u25 u26 u27 u28 u29 u30 u31 u32 u33 u34 u35 u36 u37 u38 u39 u40 : Value,
      BIf (decide ((128 : Int) ≤ n22)) (
        needSome o1 fun a41 =>
        ∃ s42 : Slc, World.cell? w23 a41 = some (Slc.v s42) ∧
        0 ≤ n22 ∧ 0 < (128 : Int) ∧
        inR .i64 ((n22 % (128 : Int)) + (128 : Int)) ∧
        newS w23 (.cells ⟨[(Value.int .u8 (IntKind.wrap .u8 ((n22 % (128 : Int)) + (128 : Int))))]⟩ 5) fun r43 w44 =>
        appendS 1 5 [(Value.int .u8 (0 : Int))] w44 s42 (.slc (⟨(some (⟨r43, 0, none⟩ : Addr)), 1, 1⟩ : Slc)) fun s45 w46 =>
        needSome o1 fun a47 =>
        canW w46 a47 1 ∧ ∀ w48 : World, w48 = World.setCell w46 a47 (Slc.v s45) →
        0 ≤ (7 : Int) ∧ 0 ≤ n22 ∧
        (I20 ((n22 / 128)) w48 ∧ mu21 ((n22 / 128)) w48 < mu21 n22 w23)) (
        needSome o1 fun a49 =>
        ∃ s50 : Slc, World.cell? w23 a49 = some (Slc.v s50) ∧
        newS w23 (.cells ⟨[(Value.int .u8 (IntKind.wrap .u8 n22))]⟩ 5) fun r51 w52 =>
        appendS 1 5 [(Value.int .u8 (0 : Int))] w52 s50 (.slc (⟨(some (⟨r51, 0, none⟩ : Addr)), 1, 1⟩ : Slc)) fun s53 w54 =>
        needSome o1 fun a55 =>
        canW w54 a55 1 ∧ ∀ w56 : World, w56 = World.setCell w54 a55 (Slc.v s53) →
        K (Value.tuple #[]) w56)))

theorem pack_Out_Num_eq (o1 : Option Addr) (n2 : Int) (w : World) (K : Value → World → Prop) : pack_Out_Num o1 n2 w K = denF Tryd.prog callB Tryd.f41 (.cut [] [4, 5, 6, 7, 8, 9, 10, 11, 12] .none (.two (.one (.loop [(1, (Sh.int .i64))] [13, 14, 15, 16, 17, 18, 19, 20, 21, 22, 23, 24, 25, 26, 27, 28, 29] .none)) .none)) [(Value.pointer o1), (Value.int .i64 n2)] w K := by kernel_rfl
theorem pack_Out_Num_ok (o1 : Option Addr) (n2 : Int) {w : World} {R : Ending → World → Prop} (h : pack_Out_Num o1 n2 w fun v w' => R (.returned v) w') : Calls Tryd.prog fn_pack_Out_Num ⟨[(Value.pointer o1), (Value.int .i64 n2)]⟩ w R :=
  calls_of_den callB_ok mixed Tryd.func41 (pack_Out_Num_eq o1 n2 w _ ▸ h)

/-- (*tidewater/pack.Out).Text -/
def pack_Out_Text (o1 : Option Addr) (s2 : List UInt8) (w : World) (K : Value → World → Prop) : Prop :=
  Calls Tryd.prog fn_pack_Out_Num ⟨[(Value.pointer o1), (Value.int .i64 (((List.length s2) : Nat) : Int))]⟩ w fun e3 w4 =>
  e3 = .returned (Value.tuple #[]) ∧
  needSome o1 fun a5 =>
  ∃ s6 : Slc, World.cell? w4 a5 = some (Slc.v s6) ∧
  appendS 1 5 [(Value.int .u8 (0 : Int))] w4 s6 (.str s2) fun s7 w8 =>
  needSome o1 fun a9 =>
  canW w8 a9 1 ∧ ∀ w10 : World, w10 = World.setCell w8 a9 (Slc.v s7) →
  K (Value.tuple #[]) w10

theorem pack_Out_Text_eq (o1 : Option Addr) (s2 : List UInt8) (w : World) (K : Value → World → Prop) : pack_Out_Text o1 s2 w K = denF Tryd.prog callB Tryd.f43 .none [(Value.pointer o1), (strV s2)] w K := by kernel_rfl
theorem pack_Out_Text_ok (o1 : Option Addr) (s2 : List UInt8) {w : World} {R : Ending → World → Prop} (h : pack_Out_Text o1 s2 w fun v w' => R (.returned v) w') : Calls Tryd.prog fn_pack_Out_Text ⟨[(Value.pointer o1), (strV s2)]⟩ w R :=
  calls_of_den callB_ok mixed Tryd.func43 (pack_Out_Text_eq o1 s2 w _ ▸ h)

/-- (*tidewater/pack.Out).Done -/
def pack_Out_Done (o1 : Option Addr) (w : World) (K : Value → World → Prop) : Prop :=
  needSome o1 fun a2 =>
  ∃ v3 : Value, World.cell? w (a2.add 1) = some v3 ∧
  isI v3 ∧
  BIf (!isNilI v3) (
    needSome o1 fun a4 =>
    ∃ v5 : Value, World.cell? (World.drew w) (a4.add 1) = some v5 ∧
    K (Value.tuple ⟨[(Slc.v (⟨none, 0, 0⟩ : Slc)), v5]⟩) (World.drew w)) (
    needSome o1 fun a6 =>
    ∃ s7 : Slc, World.cell? w a6 = some (Slc.v s7) ∧
    BIf (decide ((65536 : Int) < ((s7.l : Nat) : Int))) (
      ∃ v8 : Value, World.cell? (World.drew w) (⟨gl_ErrLong, 0, none⟩ : Addr) = some v8 ∧
      K (Value.tuple ⟨[(Slc.v (⟨none, 0, 0⟩ : Slc)), v8]⟩) (World.drew w)) (
      needSome o1 fun a9 =>
      ∃ s10 : Slc, World.cell? w a9 = some (Slc.v s10) ∧
      Calls Tryd.prog fn_slices_Clone_byte ⟨[(Slc.v s10)]⟩ w fun e11 w12 =>
      ∃ s13 : Slc, e11 = .returned (Slc.v s13) ∧
      K (Value.tuple ⟨[(Slc.v s13), Value.nilIface]⟩) w12))

theorem pack_Out_Done_eq (o1 : Option Addr) (w : World) (K : Value → World → Prop) : pack_Out_Done o1 w K = denF Tryd.prog callB Tryd.f42 .none [(Value.pointer o1)] w K := by kernel_rfl
theorem pack_Out_Done_ok (o1 : Option Addr) {w : World} {R : Ending → World → Prop} (h : pack_Out_Done o1 w fun v w' => R (.returned v) w') : Calls Tryd.prog fn_pack_Out_Done ⟨[(Value.pointer o1)]⟩ w R :=
  calls_of_den callB_ok mixed Tryd.func42 (pack_Out_Done_eq o1 w _ ▸ h)

/-- tidewater/pack.Read -/
def pack_Read (b1 : Slc) (w : World) (K : Value → World → Prop) : Prop :=
  Calls Tryd.prog fn_slices_Clone_byte ⟨[(Slc.v b1)]⟩ w fun e2 w3 =>
  ∃ s4 : Slc, e2 = .returned (Slc.v s4) ∧
  newS w3 (.cells ⟨[(Slc.v s4), Value.nilIface]⟩ 108) fun r5 w6 =>
  K (Value.pointer (some (⟨r5, 0, none⟩ : Addr))) w6

theorem pack_Read_eq (b1 : Slc) (w : World) (K : Value → World → Prop) : pack_Read b1 w K = denF Tryd.prog callB Tryd.f37 .none [(Slc.v b1)] w K := by kernel_rfl
theorem pack_Read_ok (b1 : Slc) {w : World} {R : Ending → World → Prop} (h : pack_Read b1 w fun v w' => R (.returned v) w') : Calls Tryd.prog fn_pack_Read ⟨[(Slc.v b1)]⟩ w R :=
  calls_of_den callB_ok mixed Tryd.func37 (pack_Read_eq b1 w _ ▸ h)

/-- (*tidewater/pack.In).fail -/
def pack_In_fail (i1 : Option Addr) (err2 : Value) (w : World) (K : Value → World → Prop) : Prop :=
  needSome i1 fun a3 =>
  ∃ v4 : Value, World.cell? w (a3.add 1) = some v4 ∧
  isI v4 ∧
  BIf (isNilI v4) (
    needSome i1 fun a5 =>
    oneK err2 (
    oneK err2 (
    canW w (a5.add 1) 1 ∧ ∀ w6 : World, w6 = World.setCell w (a5.add 1) err2 →
    K (Value.int .i64 (0 : Int)) w6))) (
    K (Value.int .i64 (0 : Int)) w)

theorem pack_In_fail_eq (i1 : Option Addr) (err2 : Value) (w : World) (K : Value → World → Prop) : pack_In_fail i1 err2 w K = denF Tryd.prog callB Tryd.f71 .none [(Value.pointer i1), err2] w K := by kernel_rfl
theorem pack_In_fail_ok (i1 : Option Addr) (err2 : Value) {w : World} {R : Ending → World → Prop} (h : pack_In_fail i1 err2 w fun v w' => R (.returned v) w') : Calls Tryd.prog fn_pack_In_fail ⟨[(Value.pointer i1), err2]⟩ w R :=
  calls_of_den callB_ok mixed Tryd.func71 (pack_In_fail_eq i1 err2 w _ ▸ h)

/-- (*tidewater/pack.In).raw -/
def pack_In_raw (i1 : Option Addr) (w : World) (K : Value → World → Prop) : Prop :=
  needSome i1 fun a2 =>
  ∃ s3 : Slc, World.cell? w a2 = some (Slc.v s3) ∧
  ∃ (I4 : (Int) → (Int) → World → Prop) (mu5 : (Int) → (Int) → World → Nat), I4 ((0 : Int)) ((0 : Int)) w ∧ (
  ∀ n6 : Int, ∀ i7 : Int, ∀ w8 : World, I4 n6 i7 w8 → ∀ u9 u10 u11 u12 u13 u14 u15 u16 u17 u18 u19 u20 u21 u22 u23 u24 u25 u26 u27 u28 u29 u30 u31 u32 u33 u34 u35 u36 u37 u38 u39 u40 u41 u42 u43 u44 u45 u46 u47 u48 u49 u50 u51 u52 u53 u54 u55 u56 u57 u58 u59 u60 u61 u62 : Value,
    BIf (decide (i7 < ((s3.l : Nat) : Int))) (
      needSome s3.p fun a63 =>
      0 ≤ i7 ∧ i7 < ((s3.l : Nat) : Int) ∧
      ∃ n64 : Int, World.cell? w8 (Addr.add a63 ((Int.toNat i7) * 1)) = some (Value.int .u8 n64) ∧
      0 ≤ n64 ∧ 0 < (128 : Int) ∧
      inR .i64 (n64 % (128 : Int)) ∧
      inR .i64 ((7 : Int) * i7) ∧
      0 ≤ ((7 : Int) * i7) ∧
      inR .i64 ((n64 % (128 : Int)) * ((2 ^ min (Int.toNat ((7 : Int) * i7)) 64 : Nat) : Int)) ∧
      0 ≤ n6 ∧ 0 ≤ ((n64 % (128 : Int)) * ((2 ^ min (Int.toNat ((7 : Int) * i7)) 64 : Nat) : Int)) ∧ inR .i64 n6 ∧ inR .i64 ((n64 % (128 : Int)) * ((2 ^ min (Int.toNat ((7 : Int) * i7)) 64 : Nat) : Int)) ∧
      ∃ J65 : World → Prop,
      (
        BIf (decide ((128 : Int) ≤ n64)) (
          BIf (decide (i7 < (8 : Int))) (
            inR .i64 (i7 + (1 : Int)) ∧
            (I4 ((bitsI .or n6 ((n64 % (128 : Int)) * ((2 ^ min (Int.toNat ((7 : Int) * i7)) 64 : Nat) : Int)))) ((i7 + (1 : Int))) w8 ∧ mu5 ((bitsI .or n6 ((n64 % (128 : Int)) * ((2 ^ min (Int.toNat ((7 : Int) * i7)) 64 : Nat) : Int)))) ((i7 + (1 : Int))) w8 < mu5 n6 i7 w8)) (
            J65 w8)) (
          J65 w8)) ∧ (
      ∀ w66 : World, J65 w66 → ∀ u67 u68 u69 u70 u71 u72 : Value,
        BIf (decide ((128 : Int) ≤ n64)) (
          ∃ v73 : Value, World.cell? w66 (⟨gl_ErrForm, 0, none⟩ : Addr) = some v73 ∧
          Calls Tryd.prog fn_pack_In_fail ⟨[(Value.pointer i1), v73]⟩ w66 fun e74 w75 =>
          ∃ n76 : Int, e74 = .returned (Value.int .i64 n76) ∧
          K (Value.int .i64 n76) w75) (
          BIf (decide (n64 = (0 : Int))) (
            BIf (decide ((0 : Int) < i7)) (
              ∃ v77 : Value, World.cell? w66 (⟨gl_ErrForm, 0, none⟩ : Addr) = some v77 ∧
              Calls Tryd.prog fn_pack_In_fail ⟨[(Value.pointer i1), v77]⟩ w66 fun e78 w79 =>
              ∃ n80 : Int, e78 = .returned (Value.int .i64 n80) ∧
              K (Value.int .i64 n80) w79) (
              BIf (decide ((4611686018427387903 : Int) < (bitsI .or n6 ((n64 % (128 : Int)) * ((2 ^ min (Int.toNat ((7 : Int) * i7)) 64 : Nat) : Int))))) (
                ∃ v81 : Value, World.cell? w66 (⟨gl_ErrForm, 0, none⟩ : Addr) = some v81 ∧
                Calls Tryd.prog fn_pack_In_fail ⟨[(Value.pointer i1), v81]⟩ w66 fun e82 w83 =>
                ∃ n84 : Int, e82 = .returned (Value.int .i64 n84) ∧
                K (Value.int .i64 n84) w83) (
                BIf (decide ((bitsI .or n6 ((n64 % (128 : Int)) * ((2 ^ min (Int.toNat ((7 : Int) * i7)) 64 : Nat) : Int))) < (0 : Int))) (
                  ∃ v85 : Value, World.cell? w66 (⟨gl_ErrForm, 0, none⟩ : Addr) = some v85 ∧
                  Calls Tryd.prog fn_pack_In_fail ⟨[(Value.pointer i1), v85]⟩ w66 fun e86 w87 =>
                  ∃ n88 : Int, e86 = .returned (Value.int .i64 n88) ∧
                  K (Value.int .i64 n88) w87) (
                  needSome i1 fun a89 =>
                  ∃ s90 : Slc, World.cell? w66 a89 = some (Slc.v s90) ∧
                  inR .i64 (i7 + (1 : Int)) ∧
                  0 ≤ (i7 + (1 : Int)) ∧ (i7 + (1 : Int)) ≤ ((s90.l : Nat) : Int) ∧ ((s90.l : Nat) : Int) ≤ ((s90.c : Nat) : Int) ∧ ((s90.c : Nat) : Int) ≤ ((s90.c : Nat) : Int) ∧
                  needSome i1 fun a92 =>
                  canW w66 a92 1 ∧ ∀ w93 : World, w93 = World.setCell w66 a92 (Slc.v (Slc.sub s90 1 (Int.toNat (i7 + (1 : Int))) s90.l s90.c)) →
                  K (Value.int .i64 (bitsI .or n6 ((n64 % (128 : Int)) * ((2 ^ min (Int.toNat ((7 : Int) * i7)) 64 : Nat) : Int)))) w93)))) (
            BIf (decide ((4611686018427387903 : Int) < (bitsI .or n6 ((n64 % (128 : Int)) * ((2 ^ min (Int.toNat ((7 : Int) * i7)) 64 : Nat) : Int))))) (
              ∃ v94 : Value, World.cell? w66 (⟨gl_ErrForm, 0, none⟩ : Addr) = some v94 ∧
              Calls Tryd.prog fn_pack_In_fail ⟨[(Value.pointer i1), v94]⟩ w66 fun e95 w96 =>
              ∃ n97 : Int, e95 = .returned (Value.int .i64 n97) ∧
              K (Value.int .i64 n97) w96) (
              BIf (decide ((bitsI .or n6 ((n64 % (128 : Int)) * ((2 ^ min (Int.toNat ((7 : Int) * i7)) 64 : Nat) : Int))) < (0 : Int))) (
                ∃ v98 : Value, World.cell? w66 (⟨gl_ErrForm, 0, none⟩ : Addr) = some v98 ∧
                Calls Tryd.prog fn_pack_In_fail ⟨[(Value.pointer i1), v98]⟩ w66 fun e99 w100 =>
                ∃ n101 : Int, e99 = .returned (Value.int .i64 n101) ∧
                K (Value.int .i64 n101) w100) (
                needSome i1 fun a102 =>
                ∃ s103 : Slc, World.cell? w66 a102 = some (Slc.v s103) ∧
                inR .i64 (i7 + (1 : Int)) ∧
                0 ≤ (i7 + (1 : Int)) ∧ (i7 + (1 : Int)) ≤ ((s103.l : Nat) : Int) ∧ ((s103.l : Nat) : Int) ≤ ((s103.c : Nat) : Int) ∧ ((s103.c : Nat) : Int) ≤ ((s103.c : Nat) : Int) ∧
                needSome i1 fun a105 =>
                canW w66 a105 1 ∧ ∀ w106 : World, w106 = World.setCell w66 a105 (Slc.v (Slc.sub s103 1 (Int.toNat (i7 + (1 : Int))) s103.l s103.c)) →
                K (Value.int .i64 (bitsI .or n6 ((n64 % (128 : Int)) * ((2 ^ min (Int.toNat ((7 : Int) * i7)) 64 : Nat) : Int)))) w106)))))) (
      ∃ v107 : Value, World.cell? w8 (⟨gl_ErrShort, 0, none⟩ : Addr) = some v107 ∧
      Calls Tryd.prog fn_pack_In_fail ⟨[(Value.pointer i1), v107]⟩ w8 fun e108 w109 =>
      ∃ n110 : Int, e108 = .returned (Value.int .i64 n110) ∧
      K (Value.int .i64 n110) w109))

theorem pack_In_raw_eq (i1 : Option Addr) (w : World) (K : Value → World → Prop) : pack_In_raw i1 w K = denF Tryd.prog callB Tryd.f70 (.two .none (.two .none (.two (.two .none (.one (.loop [(3, (Sh.int .i64)), (11, (Sh.int .i64))] [2, 4, 5, 12, 13, 14, 15, 16, 17, 18, 19, 20, 21, 22, 23, 24, 25, 26, 27, 28, 29, 30, 31, 32, 33, 34, 35, 36, 37, 38, 39, 40, 41, 42, 43, 44, 45, 46, 47, 48, 49, 50, 51, 52, 53, 54, 55, 56, 57, 58, 59, 60, 61, 62] (.two .none (.two .none (.two (.one (.two .none (.two .none (.cut [] [24, 25, 26, 27, 28, 29] .none .none)))) .none)))))) .none))) [(Value.pointer i1)] w K := by kernel_rfl
theorem pack_In_raw_ok (i1 : Option Addr) {w : World} {R : Ending → World → Prop} (h : pack_In_raw i1 w fun v w' => R (.returned v) w') : Calls Tryd.prog fn_pack_In_raw ⟨[(Value.pointer i1)]⟩ w R :=
  calls_of_den callB_ok mixed Tryd.func70 (pack_In_raw_eq i1 w _ ▸ h)

/-- (*tidewater/pack.In).Num -/
def pack_In_Num (i1 : Option Addr) (most2 : Int) (w : World) (K : Value → World → Prop) : Prop :=
  needSome i1 fun a3 =>
  ∃ v4 : Value, World.cell? w (a3.add 1) = some v4 ∧
  isI v4 ∧
  BIf (!isNilI v4) (
    K (Value.int .i64 (0 : Int)) w) (
    Calls Tryd.prog fn_pack_In_raw ⟨[(Value.pointer i1)]⟩ w fun e5 w6 =>
    ∃ n7 : Int, e5 = .returned (Value.int .i64 n7) ∧
    needSome i1 fun a8 =>
    ∃ v9 : Value, World.cell? w6 (a8.add 1) = some v9 ∧
    isI v9 ∧
    BIf (isNilI v9) (
      BIf (decide (most2 < n7)) (
        ∃ v10 : Value, World.cell? w6 (⟨gl_ErrRange, 0, none⟩ : Addr) = some v10 ∧
        Calls Tryd.prog fn_pack_In_fail ⟨[(Value.pointer i1), v10]⟩ w6 fun e11 w12 =>
        ∃ n13 : Int, e11 = .returned (Value.int .i64 n13) ∧
        K (Value.int .i64 n13) w12) (
        K (Value.int .i64 n7) w6)) (
      K (Value.int .i64 n7) w6))

theorem pack_In_Num_eq (i1 : Option Addr) (most2 : Int) (w : World) (K : Value → World → Prop) : pack_In_Num i1 most2 w K = denF Tryd.prog callB Tryd.f38 .none [(Value.pointer i1), (Value.int .i64 most2)] w K := by kernel_rfl
theorem pack_In_Num_ok (i1 : Option Addr) (most2 : Int) {w : World} {R : Ending → World → Prop} (h : pack_In_Num i1 most2 w fun v w' => R (.returned v) w') : Calls Tryd.prog fn_pack_In_Num ⟨[(Value.pointer i1), (Value.int .i64 most2)]⟩ w R :=
  calls_of_den callB_ok mixed Tryd.func38 (pack_In_Num_eq i1 most2 w _ ▸ h)

/-- (*tidewater/pack.In).Left -/
def pack_In_Left (i1 : Option Addr) (w : World) (K : Value → World → Prop) : Prop :=
  needSome i1 fun a2 =>
  ∃ s3 : Slc, World.cell? w a2 = some (Slc.v s3) ∧
  K (Value.int .i64 ((s3.l : Nat) : Int)) w

theorem pack_In_Left_eq (i1 : Option Addr) (w : World) (K : Value → World → Prop) : pack_In_Left i1 w K = denF Tryd.prog callB Tryd.f39 .none [(Value.pointer i1)] w K := by kernel_rfl
theorem pack_In_Left_ok (i1 : Option Addr) {w : World} {R : Ending → World → Prop} (h : pack_In_Left i1 w fun v w' => R (.returned v) w') : Calls Tryd.prog fn_pack_In_Left ⟨[(Value.pointer i1)]⟩ w R :=
  calls_of_den callB_ok mixed Tryd.func39 (pack_In_Left_eq i1 w _ ▸ h)

/-- (*tidewater/pack.In).End -/
def pack_In_End (i1 : Option Addr) (w : World) (K : Value → World → Prop) : Prop :=
  needSome i1 fun a2 =>
  ∃ v3 : Value, World.cell? w (a2.add 1) = some v3 ∧
  isI v3 ∧
  BIf (isNilI v3) (
    needSome i1 fun a4 =>
    ∃ s5 : Slc, World.cell? w a4 = some (Slc.v s5) ∧
    BIf (decide ((0 : Int) < ((s5.l : Nat) : Int))) (
      ∃ v6 : Value, World.cell? w (⟨gl_ErrForm, 0, none⟩ : Addr) = some v6 ∧
      K v6 w) (
      needSome i1 fun a7 =>
      ∃ v8 : Value, World.cell? w (a7.add 1) = some v8 ∧
      K v8 w)) (
    needSome i1 fun a9 =>
    ∃ v10 : Value, World.cell? w (a9.add 1) = some v10 ∧
    K v10 w)

theorem pack_In_End_eq (i1 : Option Addr) (w : World) (K : Value → World → Prop) : pack_In_End i1 w K = denF Tryd.prog callB Tryd.f40 .none [(Value.pointer i1)] w K := by kernel_rfl
theorem pack_In_End_ok (i1 : Option Addr) {w : World} {R : Ending → World → Prop} (h : pack_In_End i1 w fun v w' => R (.returned v) w') : Calls Tryd.prog fn_pack_In_End ⟨[(Value.pointer i1)]⟩ w R :=
  calls_of_den callB_ok mixed Tryd.func40 (pack_In_End_eq i1 w _ ▸ h)

/-- (*tidewater/pack.In).Err -/
def pack_In_Err (i1 : Option Addr) (w : World) (K : Value → World → Prop) : Prop :=
  needSome i1 fun a2 =>
  ∃ v3 : Value, World.cell? w (a2.add 1) = some v3 ∧
  K v3 w

theorem pack_In_Err_eq (i1 : Option Addr) (w : World) (K : Value → World → Prop) : pack_In_Err i1 w K = denF Tryd.prog callB Tryd.f44 .none [(Value.pointer i1)] w K := by kernel_rfl
theorem pack_In_Err_ok (i1 : Option Addr) {w : World} {R : Ending → World → Prop} (h : pack_In_Err i1 w fun v w' => R (.returned v) w') : Calls Tryd.prog fn_pack_In_Err ⟨[(Value.pointer i1)]⟩ w R :=
  calls_of_den callB_ok mixed Tryd.func44 (pack_In_Err_eq i1 w _ ▸ h)

/-- (*tidewater/pack.In).Text -/
def pack_In_Text (i1 : Option Addr) (most2 : Int) (w : World) (K : Value → World → Prop) : Prop :=
  Calls Tryd.prog fn_pack_In_Num ⟨[(Value.pointer i1), (Value.int .i64 most2)]⟩ w fun e3 w4 =>
  ∃ n5 : Int, e3 = .returned (Value.int .i64 n5) ∧
  needSome i1 fun a6 =>
  ∃ v7 : Value, World.cell? w4 (a6.add 1) = some v7 ∧
  isI v7 ∧
  BIf (!isNilI v7) (
    K (strV ([] : List UInt8)) w4) (
    needSome i1 fun a8 =>
    ∃ s9 : Slc, World.cell? w4 a8 = some (Slc.v s9) ∧
    BIf (decide (((s9.l : Nat) : Int) < n5)) (
      ∃ v10 : Value, World.cell? w4 (⟨gl_ErrShort, 0, none⟩ : Addr) = some v10 ∧
      Calls Tryd.prog fn_pack_In_fail ⟨[(Value.pointer i1), v10]⟩ w4 fun e11 w12 =>
      ∃ n13 : Int, e11 = .returned (Value.int .i64 n13) ∧
      K (strV ([] : List UInt8)) w12) (
      needSome i1 fun a14 =>
      ∃ s15 : Slc, World.cell? w4 a14 = some (Slc.v s15) ∧
      0 ≤ (0 : Int) ∧ (0 : Int) ≤ n5 ∧ n5 ≤ ((s15.c : Nat) : Int) ∧ ((s15.c : Nat) : Int) ≤ ((s15.c : Nat) : Int) ∧
      ∃ t17 : List UInt8, bytesAt w4 (Slc.sub s15 1 0 (Int.toNat n5) s15.c) t17 ∧
      needSome i1 fun a18 =>
      ∃ s19 : Slc, World.cell? w4 a18 = some (Slc.v s19) ∧
      0 ≤ n5 ∧ n5 ≤ ((s19.l : Nat) : Int) ∧ ((s19.l : Nat) : Int) ≤ ((s19.c : Nat) : Int) ∧ ((s19.c : Nat) : Int) ≤ ((s19.c : Nat) : Int) ∧
      needSome i1 fun a21 =>
      canW w4 a21 1 ∧ ∀ w22 : World, w22 = World.setCell w4 a21 (Slc.v (Slc.sub s19 1 (Int.toNat n5) s19.l s19.c)) →
      K (strV t17) w22))

theorem pack_In_Text_eq (i1 : Option Addr) (most2 : Int) (w : World) (K : Value → World → Prop) : pack_In_Text i1 most2 w K = denF Tryd.prog callB Tryd.f45 .none [(Value.pointer i1), (Value.int .i64 most2)] w K := by kernel_rfl
theorem pack_In_Text_ok (i1 : Option Addr) (most2 : Int) {w : World} {R : Ending → World → Prop} (h : pack_In_Text i1 most2 w fun v w' => R (.returned v) w') : Calls Tryd.prog fn_pack_In_Text ⟨[(Value.pointer i1), (Value.int .i64 most2)]⟩ w R :=
  calls_of_den callB_ok mixed Tryd.func45 (pack_In_Text_eq i1 most2 w _ ▸ h)

/-- (*tidewater/pack.In).Nums -/
def pack_In_Nums (i1 : Option Addr) (many2 : Int) (most3 : Int) (w : World) (K : Value → World → Prop) : Prop :=
  Calls Tryd.prog fn_pack_In_Num ⟨[(Value.pointer i1), (Value.int .i64 many2)]⟩ w fun e4 w5 =>
  ∃ n6 : Int, e4 = .returned (Value.int .i64 n6) ∧
  ∃ (I7 : (Slc) → World → Prop) (mu8 : (Slc) → World → Nat), I7 ((⟨none, 0, 0⟩ : Slc)) w5 ∧ (
  ∀ out9 : Slc, ∀ w10 : World, I7 out9 w10 → ∀ u11 u12 u13 u14 u15 u16 u17 u18 u19 u20 u21 u22 u23 u24 u25 u26 u27 u28 : Value,
    BIf (decide (((out9.l : Nat) : Int) < n6)) (
      Calls Tryd.prog fn_pack_In_Num ⟨[(Value.pointer i1), (Value.int .i64 most3)]⟩ w10 fun e29 w30 =>
      ∃ n31 : Int, e29 = .returned (Value.int .i64 n31) ∧
      needSome i1 fun a32 =>
      ∃ v33 : Value, World.cell? w30 (a32.add 1) = some v33 ∧
      isI v33 ∧
      BIf (!isNilI v33) (
        K (Slc.v (⟨none, 0, 0⟩ : Slc)) w30) (
        newS w30 (.cells ⟨[(Value.int .i64 n31)]⟩ 3) fun r34 w35 =>
        appendS 1 3 [(Value.int .i64 (0 : Int))] w35 out9 (.slc (⟨(some (⟨r34, 0, none⟩ : Addr)), 1, 1⟩ : Slc)) fun s36 w37 =>
        (I7 (s36) w37 ∧ mu8 (s36) w37 < mu8 out9 w10))) (
      K (Slc.v out9) w10))

theorem pack_In_Nums_eq (i1 : Option Addr) (many2 : Int) (most3 : Int) (w : World) (K : Value → World → Prop) : pack_In_Nums i1 many2 most3 w K = denF Tryd.prog callB Tryd.f46 (.two .none (.two .none (.two (.two .none (.one (.loop [(7, Sh.slc)] [6, 9, 13, 14, 15, 16, 17, 18, 19, 20, 21, 22, 23, 24, 25, 26, 27, 28] .none))) .none))) [(Value.pointer i1), (Value.int .i64 many2), (Value.int .i64 most3)] w K := by kernel_rfl
theorem pack_In_Nums_ok (i1 : Option Addr) (many2 : Int) (most3 : Int) {w : World} {R : Ending → World → Prop} (h : pack_In_Nums i1 many2 most3 w fun v w' => R (.returned v) w') : Calls Tryd.prog fn_pack_In_Nums ⟨[(Value.pointer i1), (Value.int .i64 many2), (Value.int .i64 most3)]⟩ w R :=
  calls_of_den callB_ok mixed Tryd.func46 (pack_In_Nums_eq i1 many2 most3 w _ ▸ h)

/-- (*tidewater/pack.Out).Nums -/
def pack_Out_Nums (o1 : Option Addr) (list2 : Slc) (w : World) (K : Value → World → Prop) : Prop :=
  Calls Tryd.prog fn_pack_Out_Num ⟨[(Value.pointer o1), (Value.int .i64 ((list2.l : Nat) : Int))]⟩ w fun e3 w4 =>
  e3 = .returned (Value.tuple #[]) ∧
  ∃ (I5 : (Int) → World → Prop) (mu6 : (Int) → World → Nat), I5 ((0 : Int)) w4 ∧ (
  ∀ i7 : Int, ∀ w8 : World, I5 i7 w8 → ∀ u9 u10 u11 u12 u13 u14 u15 u16 : Value,
    BIf (decide (i7 < ((list2.l : Nat) : Int))) (
      needSome list2.p fun a17 =>
      0 ≤ i7 ∧ i7 < ((list2.l : Nat) : Int) ∧
      ∃ n18 : Int, World.cell? w8 (Addr.add a17 ((Int.toNat i7) * 1)) = some (Value.int .i64 n18) ∧
      Calls Tryd.prog fn_pack_Out_Num ⟨[(Value.pointer o1), (Value.int .i64 n18)]⟩ w8 fun e19 w20 =>
      e19 = .returned (Value.tuple #[]) ∧
      inR .i64 (i7 + (1 : Int)) ∧
      (I5 ((i7 + (1 : Int))) w20 ∧ mu6 ((i7 + (1 : Int))) w20 < mu6 i7 w8)) (
      K (Value.tuple #[]) w8))

theorem pack_Out_Nums_eq (o1 : Option Addr) (list2 : Slc) (w : World) (K : Value → World → Prop) : pack_Out_Nums o1 list2 w K = denF Tryd.prog callB Tryd.f51 (.two .none (.two .none (.one (.loop [(12, (Sh.int .i64))] [5, 13, 14, 15, 16, 17, 18, 19] .none)))) [(Value.pointer o1), (Slc.v list2)] w K := by kernel_rfl
theorem pack_Out_Nums_ok (o1 : Option Addr) (list2 : Slc) {w : World} {R : Ending → World → Prop} (h : pack_Out_Nums o1 list2 w fun v w' => R (.returned v) w') : Calls Tryd.prog fn_pack_Out_Nums ⟨[(Value.pointer o1), (Slc.v list2)]⟩ w R :=
  calls_of_den callB_ok mixed Tryd.func51 (pack_Out_Nums_eq o1 list2 w _ ▸ h)

/-- tidewater/tidewaterlaw04.alive -/
def tidewaterlaw04_alive  (w : World) (K : Value → World → Prop) : Prop :=
  newS w (.cells ⟨[(Slc.v (⟨none, 0, 0⟩ : Slc)), Value.nilIface]⟩ 67) fun r1 w2 =>
  Calls Tryd.prog fn_pack_Out_Num ⟨[(Value.pointer (some (⟨r1, 0, none⟩ : Addr))), (Value.int .i64 (300 : Int))]⟩ w2 fun e3 w4 =>
  e3 = .returned (Value.tuple #[]) ∧
  Calls Tryd.prog fn_pack_Out_Done ⟨[(Value.pointer (some (⟨r1, 0, none⟩ : Addr)))]⟩ w4 fun e5 w6 =>
  ∃ s7 : Slc, ∃ e8 : Value, e5 = .returned (Value.tuple ⟨[(Slc.v s7), e8]⟩) ∧
  isI e8 ∧
  BIf (isNilI e8) (
    ∃ t9 : List UInt8, bytesAt w6 s7 t9 ∧
    K (Value.bool (decide (t9 = ([172, 2] : List UInt8)))) w6) (
    K (Value.bool false) w6)

theorem tidewaterlaw04_alive_eq  (w : World) (K : Value → World → Prop) : tidewaterlaw04_alive  w K = denF Tryd.prog callB Tryd.f36 .none [] w K := by kernel_rfl
theorem tidewaterlaw04_alive_ok  {w : World} {R : Ending → World → Prop} (h : tidewaterlaw04_alive  w fun v w' => R (.returned v) w') : Calls Tryd.prog fn_tidewaterlaw04_alive ⟨[]⟩ w R :=
  calls_of_den callB_ok mixed Tryd.func36 (tidewaterlaw04_alive_eq  w _ ▸ h)

/-- tidewater/tidewaterlaw04.long -/
def tidewaterlaw04_long (items1 : Slc) (w : World) (K : Value → World → Prop) : Prop :=
  BIf (decide ((20 : Int) < ((items1.l : Nat) : Int))) (
    K (Value.bool true) w) (
    ∃ (I2 : (Int) → World → Prop) (mu3 : (Int) → World → Nat), I2 ((0 : Int)) w ∧ (
    ∀ i4 : Int, ∀ w5 : World, I2 i4 w5 → ∀ u6 u7 u8 u9 u10 u11 u12 u13 u14 u15 u16 u17 u18 u19 u20 u21 : Value,
      BIf (decide (i4 < ((items1.l : Nat) : Int))) (
        needSome items1.p fun a22 =>
        0 ≤ i4 ∧ i4 < ((items1.l : Nat) : Int) ∧
        ∃ n23 : Int, ∃ n24 : Int, ∃ t25 : List UInt8, ∃ s26 : Slc, rowAt w5 (Addr.add a22 ((Int.toNat i4) * 4)) 0 [(Value.int .i64 n23), (Value.int .i64 n24), (strV t25), (Slc.v s26)] ∧
        newS w5 (.cells ⟨[(Value.int .i64 (0 : Int)), (Value.int .i64 (0 : Int)), (strV ([] : List UInt8)), (Slc.v (⟨none, 0, 0⟩ : Slc))]⟩ 82) fun r27 w28 =>
        canW w28 (⟨r27, 0, none⟩ : Addr) 4 ∧ ∀ w29 : World, w29 = setCells w28 (⟨r27, 0, none⟩ : Addr) 0 [(Value.int .i64 n23), (Value.int .i64 n24), (strV t25), (Slc.v s26)] →
        ∃ t30 : List UInt8, World.cell? w29 (⟨r27, 2, none⟩ : Addr) = some (strV t30) ∧
        BIf (decide ((300 : Int) < (((List.length t30) : Nat) : Int))) (
          K (Value.bool true) w29) (
          ∃ s31 : Slc, World.cell? w29 (⟨r27, 3, none⟩ : Addr) = some (Slc.v s31) ∧
          BIf (decide ((30 : Int) < ((s31.l : Nat) : Int))) (
            K (Value.bool true) w29) (
            inR .i64 (i4 + (1 : Int)) ∧
            (I2 ((i4 + (1 : Int))) w29 ∧ mu3 ((i4 + (1 : Int))) w29 < mu3 i4 w5)))) (
        K (Value.bool false) w5)))

theorem tidewaterlaw04_long_eq (items1 : Slc) (w : World) (K : Value → World → Prop) : tidewaterlaw04_long items1 w K = denF Tryd.prog callB Tryd.f47 (.two .none (.two .none (.two (.two .none (.one (.loop [(10, (Sh.int .i64))] [2, 4, 11, 12, 13, 14, 15, 16, 17, 18, 19, 20, 21, 22, 23, 24] .none))) .none))) [(Slc.v items1)] w K := by kernel_rfl
theorem tidewaterlaw04_long_ok (items1 : Slc) {w : World} {R : Ending → World → Prop} (h : tidewaterlaw04_long items1 w fun v w' => R (.returned v) w') : Calls Tryd.prog fn_tidewaterlaw04_long ⟨[(Slc.v items1)]⟩ w R :=
  calls_of_den callB_ok mixed Tryd.func47 (tidewaterlaw04_long_eq items1 w _ ▸ h)

/-- tidewater/tidewaterlaw04.right -/
def tidewaterlaw04_right (n1 : Int) (w : World) (K : Value → World → Prop) : Prop :=
  BIf (decide ((0 : Int) ≤ n1)) (
    K (Value.bool (decide (n1 ≤ (4611686018427387903 : Int)))) w) (
    K (Value.bool false) w)

theorem tidewaterlaw04_right_eq (n1 : Int) (w : World) (K : Value → World → Prop) : tidewaterlaw04_right n1 w K = denF Tryd.prog callB Tryd.f48 .none [(Value.int .i64 n1)] w K := by kernel_rfl
theorem tidewaterlaw04_right_ok (n1 : Int) {w : World} {R : Ending → World → Prop} (h : tidewaterlaw04_right n1 w fun v w' => R (.returned v) w') : Calls Tryd.prog fn_tidewaterlaw04_right ⟨[(Value.int .i64 n1)]⟩ w R :=
  calls_of_den callB_ok mixed Tryd.func48 (tidewaterlaw04_right_eq n1 w _ ▸ h)

/-- tidewater/tidewaterref04.Num -/
def tidewaterref04_Num (n1 : Int) (w : World) (K : Value → World → Prop) : Prop :=
  BIf (decide (n1 < (128 : Int))) (
    newS w (.cells ⟨[(Value.int .u8 (IntKind.wrap .u8 n1))]⟩ 5) fun r2 w3 =>
    K (Slc.v (⟨(some (⟨r2, 0, none⟩ : Addr)), 1, 1⟩ : Slc)) w3) (
    0 ≤ n1 ∧ 0 < (128 : Int) ∧
    inR .i64 ((n1 % (128 : Int)) + (128 : Int)) ∧
    newS w (.cells ⟨[(Value.int .u8 (IntKind.wrap .u8 ((n1 % (128 : Int)) + (128 : Int))))]⟩ 5) fun r4 w5 =>
    0 ≤ n1 ∧ 0 < (128 : Int) ∧ inR .i64 n1 ∧
    Calls Tryd.prog fn_tidewaterref04_Num ⟨[(Value.int .i64 (n1 / (128 : Int)))]⟩ w5 fun e6 w7 =>
    ∃ s8 : Slc, e6 = .returned (Slc.v s8) ∧
    appendS 1 5 [(Value.int .u8 (0 : Int))] w7 (⟨(some (⟨r4, 0, none⟩ : Addr)), 1, 1⟩ : Slc) (.slc s8) fun s9 w10 =>
    K (Slc.v s9) w10)

theorem tidewaterref04_Num_eq (n1 : Int) (w : World) (K : Value → World → Prop) : tidewaterref04_Num n1 w K = denF Tryd.prog callB Tryd.f49 .none [(Value.int .i64 n1)] w K := by kernel_rfl
theorem tidewaterref04_Num_ok (n1 : Int) {w : World} {R : Ending → World → Prop} (h : tidewaterref04_Num n1 w fun v w' => R (.returned v) w') : Calls Tryd.prog fn_tidewaterref04_Num ⟨[(Value.int .i64 n1)]⟩ w R :=
  calls_of_den callB_ok mixed Tryd.func49 (tidewaterref04_Num_eq n1 w _ ▸ h)

/-- tidewater/tidewaterref04.Text -/
def tidewaterref04_Text (s1 : List UInt8) (w : World) (K : Value → World → Prop) : Prop :=
  Calls Tryd.prog fn_tidewaterref04_Num ⟨[(Value.int .i64 (((List.length s1) : Nat) : Int))]⟩ w fun e2 w3 =>
  ∃ s4 : Slc, e2 = .returned (Slc.v s4) ∧
  appendS 1 5 [(Value.int .u8 (0 : Int))] w3 s4 (.str s1) fun s5 w6 =>
  K (Slc.v s5) w6

theorem tidewaterref04_Text_eq (s1 : List UInt8) (w : World) (K : Value → World → Prop) : tidewaterref04_Text s1 w K = denF Tryd.prog callB Tryd.f50 .none [(strV s1)] w K := by kernel_rfl
theorem tidewaterref04_Text_ok (s1 : List UInt8) {w : World} {R : Ending → World → Prop} (h : tidewaterref04_Text s1 w fun v w' => R (.returned v) w') : Calls Tryd.prog fn_tidewaterref04_Text ⟨[(strV s1)]⟩ w R :=
  calls_of_den callB_ok mixed Tryd.func50 (tidewaterref04_Text_eq s1 w _ ▸ h)

/-- tidewater/tidewaterref04.Nums -/
def tidewaterref04_Nums (l1 : Slc) (w : World) (K : Value → World → Prop) : Prop :=
  Calls Tryd.prog fn_tidewaterref04_Num ⟨[(Value.int .i64 ((l1.l : Nat) : Int))]⟩ w fun e2 w3 =>
  ∃ s4 : Slc, e2 = .returned (Slc.v s4) ∧
  ∃ (I5 : (Slc) → (Int) → World → Prop) (mu6 : (Slc) → (Int) → World → Nat), I5 (s4) ((0 : Int)) w3 ∧ (
  ∀ out7 : Slc, ∀ i8 : Int, ∀ w9 : World, I5 out7 i8 w9 → ∀ u10 u11 u12 u13 u14 u15 u16 u17 u18 : Value,
    BIf (decide (i8 < ((l1.l : Nat) : Int))) (
      needSome l1.p fun a19 =>
      0 ≤ i8 ∧ i8 < ((l1.l : Nat) : Int) ∧
      ∃ n20 : Int, World.cell? w9 (Addr.add a19 ((Int.toNat i8) * 1)) = some (Value.int .i64 n20) ∧
      Calls Tryd.prog fn_tidewaterref04_Num ⟨[(Value.int .i64 n20)]⟩ w9 fun e21 w22 =>
      ∃ s23 : Slc, e21 = .returned (Slc.v s23) ∧
      appendS 1 5 [(Value.int .u8 (0 : Int))] w22 out7 (.slc s23) fun s24 w25 =>
      inR .i64 (i8 + (1 : Int)) ∧
      (I5 (s24) ((i8 + (1 : Int))) w25 ∧ mu6 (s24) ((i8 + (1 : Int))) w25 < mu6 out7 i8 w9)) (
      K (Slc.v out7) w9))

theorem tidewaterref04_Nums_eq (l1 : Slc) (w : World) (K : Value → World → Prop) : tidewaterref04_Nums l1 w K = denF Tryd.prog callB Tryd.f52 (.two .none (.two .none (.two (.two .none (.one (.loop [(3, Sh.slc), (11, (Sh.int .i64))] [5, 12, 13, 14, 15, 16, 17, 18, 19] .none))) .none))) [(Slc.v l1)] w K := by kernel_rfl
theorem tidewaterref04_Nums_ok (l1 : Slc) {w : World} {R : Ending → World → Prop} (h : tidewaterref04_Nums l1 w fun v w' => R (.returned v) w') : Calls Tryd.prog fn_tidewaterref04_Nums ⟨[(Slc.v l1)]⟩ w R :=
  calls_of_den callB_ok mixed Tryd.func52 (tidewaterref04_Nums_eq l1 w _ ▸ h)

/-- tidewater/tidewaterlaw04.back -/
def tidewaterlaw04_back (b1 : Slc) (items2 : Slc) (w : World) (K : Value → World → Prop) : Prop :=
  Calls Tryd.prog fn_pack_Read ⟨[(Slc.v b1)]⟩ w fun e3 w4 =>
  ∃ p5 : Option Addr, e3 = .returned (Value.pointer p5) ∧
  ∃ (I6 : (Int) → World → Prop) (mu7 : (Int) → World → Nat), I6 ((0 : Int)) w4 ∧ (
  ∀ i8 : Int, ∀ w9 : World, I6 i8 w9 → ∀ u10 u11 u12 u13 u14 u15 u16 u17 u18 u19 u20 u21 u22 u23 u24 u25 u26 u27 u28 u29 u30 u31 u32 u33 u34 u35 u36 u37 : Value,
    BIf (decide (i8 < ((items2.l : Nat) : Int))) (
      needSome items2.p fun a38 =>
      0 ≤ i8 ∧ i8 < ((items2.l : Nat) : Int) ∧
      ∃ n39 : Int, ∃ n40 : Int, ∃ t41 : List UInt8, ∃ s42 : Slc, rowAt w9 (Addr.add a38 ((Int.toNat i8) * 4)) 0 [(Value.int .i64 n39), (Value.int .i64 n40), (strV t41), (Slc.v s42)] ∧
      newS w9 (.cells ⟨[(Value.int .i64 (0 : Int)), (Value.int .i64 (0 : Int)), (strV ([] : List UInt8)), (Slc.v (⟨none, 0, 0⟩ : Slc))]⟩ 82) fun r43 w44 =>
      canW w44 (⟨r43, 0, none⟩ : Addr) 4 ∧ ∀ w45 : World, w45 = setCells w44 (⟨r43, 0, none⟩ : Addr) 0 [(Value.int .i64 n39), (Value.int .i64 n40), (strV t41), (Slc.v s42)] →
      ∃ n46 : Int, World.cell? w45 (⟨r43, 0, none⟩ : Addr) = some (Value.int .i64 n46) ∧
      BIf (decide (n46 = (0 : Int))) (
        ∃ n47 : Int, World.cell? (World.drew w45) (⟨r43, 1, none⟩ : Addr) = some (Value.int .i64 n47) ∧
        Calls Tryd.prog fn_pack_In_Num ⟨[(Value.pointer p5), (Value.int .i64 (4611686018427387903 : Int))]⟩ (World.drew w45) fun e48 w49 =>
        ∃ n50 : Int, e48 = .returned (Value.int .i64 n50) ∧
        (∃ n51 : Int, World.cell? w49 (⟨r43, 1, none⟩ : Addr) = some (Value.int .i64 n51) ∧
        (Value.int .i64 n51) = (Value.int .i64 n47)) ∧
        BIf (!decide (n50 = n47)) (
          K (Value.bool false) w49) (
          inR .i64 (i8 + (1 : Int)) ∧
          (I6 ((i8 + (1 : Int))) w49 ∧ mu7 ((i8 + (1 : Int))) w49 < mu7 i8 w9))) (
        BIf (decide (n46 = (1 : Int))) (
          ∃ t52 : List UInt8, World.cell? (World.drew w45) (⟨r43, 2, none⟩ : Addr) = some (strV t52) ∧
          Calls Tryd.prog fn_pack_In_Text ⟨[(Value.pointer p5), (Value.int .i64 (300 : Int))]⟩ (World.drew w45) fun e53 w54 =>
          ∃ t55 : List UInt8, e53 = .returned (strV t55) ∧
          (∃ t56 : List UInt8, World.cell? w54 (⟨r43, 2, none⟩ : Addr) = some (strV t56) ∧
          (strV t56) = (strV t52)) ∧
          BIf (!decide (t55 = t52)) (
            K (Value.bool false) w54) (
            inR .i64 (i8 + (1 : Int)) ∧
            (I6 ((i8 + (1 : Int))) w54 ∧ mu7 ((i8 + (1 : Int))) w54 < mu7 i8 w9))) (
          ∃ s57 : Slc, World.cell? (World.drew w45) (⟨r43, 3, none⟩ : Addr) = some (Slc.v s57) ∧
          Calls Tryd.prog fn_pack_In_Nums ⟨[(Value.pointer p5), (Value.int .i64 (30 : Int)), (Value.int .i64 (4611686018427387903 : Int))]⟩ (World.drew w45) fun e58 w59 =>
          ∃ s60 : Slc, e58 = .returned (Slc.v s60) ∧
          (∃ s61 : Slc, World.cell? w59 (⟨r43, 3, none⟩ : Addr) = some (Slc.v s61) ∧
          (Slc.v s61) = (Slc.v s57)) ∧
          Calls Tryd.prog fn_tidewaternum_SameInts ⟨[(Slc.v s60), (Slc.v s57)]⟩ w59 fun e62 w63 =>
          ∃ b64 : Bool, e62 = .returned (Value.bool b64) ∧
          BIf (!b64) (
            K (Value.bool false) w63) (
            inR .i64 (i8 + (1 : Int)) ∧
            (I6 ((i8 + (1 : Int))) w63 ∧ mu7 ((i8 + (1 : Int))) w63 < mu7 i8 w9))))) (
      Calls Tryd.prog fn_pack_In_Left ⟨[(Value.pointer p5)]⟩ w9 fun e65 w66 =>
      ∃ n67 : Int, e65 = .returned (Value.int .i64 n67) ∧
      BIf (decide (n67 = (0 : Int))) (
        Calls Tryd.prog fn_pack_In_End ⟨[(Value.pointer p5)]⟩ w66 fun e68 w69 =>
        ∃ e70 : Value, e68 = .returned e70 ∧
        isI e70 ∧
        K (Value.bool (isNilI e70)) w69) (
        K (Value.bool false) w66)))

theorem tidewaterlaw04_back_eq (b1 : Slc) (items2 : Slc) (w : World) (K : Value → World → Prop) : tidewaterlaw04_back b1 items2 w K = denF Tryd.prog callB Tryd.f53 (.two .none (.two .none (.two (.two .none (.one (.loop [(12, (Sh.int .i64))] [4, 7, 13, 14, 15, 16, 17, 18, 19, 20, 21, 22, 23, 24, 25, 26, 27, 28, 29, 30, 31, 32, 33, 34, 35, 36, 37, 38] .none))) .none))) [(Slc.v b1), (Slc.v items2)] w K := by kernel_rfl
theorem tidewaterlaw04_back_ok (b1 : Slc) (items2 : Slc) {w : World} {R : Ending → World → Prop} (h : tidewaterlaw04_back b1 items2 w fun v w' => R (.returned v) w') : Calls Tryd.prog fn_tidewaterlaw04_back ⟨[(Slc.v b1), (Slc.v items2)]⟩ w R :=
  calls_of_den callB_ok mixed Tryd.func53 (tidewaterlaw04_back_eq b1 items2 w _ ▸ h)

/-- tidewater/tidewaterlaw04.PackLeast -/
def tidewaterlaw04_PackLeast (b1 : Slc) (more2 : Int) (w : World) (K : Value → World → Prop) : Prop :=
  Calls Tryd.prog fn_tidewaterlaw04_alive ⟨[]⟩ w fun e3 w4 =>
  ∃ b5 : Bool, e3 = .returned (Value.bool b5) ∧
  BIf (!b5) (
    K (Value.bool false) w4) (
    BIf (decide ((100 : Int) < ((b1.l : Nat) : Int))) (
      K (Value.bool true) w4) (
      Calls Tryd.prog fn_pack_Read ⟨[(Slc.v b1)]⟩ w4 fun e6 w7 =>
      ∃ p8 : Option Addr, e6 = .returned (Value.pointer p8) ∧
      Calls Tryd.prog fn_pack_In_Num ⟨[(Value.pointer p8), (Value.int .i64 (4611686018427387903 : Int))]⟩ w7 fun e9 w10 =>
      ∃ n11 : Int, e9 = .returned (Value.int .i64 n11) ∧
      Calls Tryd.prog fn_pack_In_Left ⟨[(Value.pointer p8)]⟩ w10 fun e12 w13 =>
      ∃ n14 : Int, e12 = .returned (Value.int .i64 n14) ∧
      ∃ J15 : World → Prop,
      (
        ∃ J16 : (Bool) → World → Prop,
        (
          Calls Tryd.prog fn_pack_In_End ⟨[(Value.pointer p8)]⟩ w13 fun e17 w18 =>
          ∃ e19 : Value, e17 = .returned e19 ∧
          isI e19 ∧
          BIf (isNilI e19) (
            J16 (true) w18) (
            Calls Tryd.prog fn_pack_In_End ⟨[(Value.pointer p8)]⟩ w18 fun e20 w21 =>
            ∃ e22 : Value, e20 = .returned e22 ∧
            Calls Tryd.prog fn_tidewaternum_Num ⟨[e22]⟩ w21 fun e23 w24 =>
            ∃ n25 : Int, e23 = .returned (Value.int .i64 n25) ∧
            BIf (decide (n25 = (4 : Int))) (
              J16 ((decide (n14 < ((b1.l : Nat) : Int)))) w24) (
              J16 (false) w24))) ∧ (
        ∀ x26 : Bool, ∀ w27 : World, J16 x26 w27 → ∀ u28 u29 u30 u31 u32 u33 u34 u35 u36 u37 u38 u39 u40 u41 : Value,
          BIf x26 (
            newS w27 (.cells ⟨[(Slc.v (⟨none, 0, 0⟩ : Slc)), Value.nilIface]⟩ 67) fun r42 w43 =>
            Calls Tryd.prog fn_pack_Out_Num ⟨[(Value.pointer (some (⟨r42, 0, none⟩ : Addr))), (Value.int .i64 n11)]⟩ w43 fun e44 w45 =>
            e44 = .returned (Value.tuple #[]) ∧
            Calls Tryd.prog fn_pack_Out_Done ⟨[(Value.pointer (some (⟨r42, 0, none⟩ : Addr)))]⟩ w45 fun e46 w47 =>
            ∃ s48 : Slc, ∃ e49 : Value, e46 = .returned (Value.tuple ⟨[(Slc.v s48), e49]⟩) ∧
            isI e49 ∧
            BIf (!isNilI e49) (
              K (Value.bool false) (World.drew w47)) (
              ∃ t50 : List UInt8, bytesAt (World.drew w47) s48 t50 ∧
              inR .i64 (((b1.l : Nat) : Int) - n14) ∧
              0 ≤ (0 : Int) ∧ (0 : Int) ≤ (((b1.l : Nat) : Int) - n14) ∧ (((b1.l : Nat) : Int) - n14) ≤ ((b1.c : Nat) : Int) ∧ ((b1.c : Nat) : Int) ≤ ((b1.c : Nat) : Int) ∧
              ∃ t52 : List UInt8, bytesAt (World.drew w47) (Slc.sub b1 1 0 (Int.toNat (((b1.l : Nat) : Int) - n14)) b1.c) t52 ∧
              BIf (!decide (t50 = t52)) (
                K (Value.bool false) (World.drew w47)) (
                J15 (World.drew w47)))) (
            J15 w27))) ∧ (
      ∀ w53 : World, J15 w53 → ∀ u54 u55 u56 u57 u58 u59 u60 u61 u62 u63 u64 u65 u66 u67 u68 u69 u70 u71 u72 u73 u74 u75 u76 u77 u78 u79 u80 u81 u82 u83 u84 u85 u86 u87 u88 u89 u90 u91 u92 u93 u94 u95 u96 : Value,
        0 ≤ (IntKind.wrap .u64 more2) ∧ 0 < (10 : Int) ∧
        inR .i64 ((65530 : Int) + (IntKind.wrap .i64 ((IntKind.wrap .u64 more2) % (10 : Int)))) ∧
        newS w53 (.cells ⟨[(Slc.v (⟨none, 0, 0⟩ : Slc)), Value.nilIface]⟩ 67) fun r97 w98 =>
        0 ≤ ((65530 : Int) + (IntKind.wrap .i64 ((IntKind.wrap .u64 more2) % (10 : Int)))) ∧ ((65530 : Int) + (IntKind.wrap .i64 ((IntKind.wrap .u64 more2) % (10 : Int)))) ≤ ((65530 : Int) + (IntKind.wrap .i64 ((IntKind.wrap .u64 more2) % (10 : Int)))) ∧ ((65530 : Int) + (IntKind.wrap .i64 ((IntKind.wrap .u64 more2) % (10 : Int)))) ≤ 2 ^ 30 ∧
        newS w98 (.cells ⟨repl (Int.toNat ((65530 : Int) + (IntKind.wrap .i64 ((IntKind.wrap .u64 more2) % (10 : Int))))) [(Value.int .u8 (0 : Int))]⟩ 5) fun r99 w100 =>
        ∃ t101 : List UInt8, bytesAt w100 (⟨(some (⟨r99, 0, none⟩ : Addr)), (Int.toNat ((65530 : Int) + (IntKind.wrap .i64 ((IntKind.wrap .u64 more2) % (10 : Int))))), (Int.toNat ((65530 : Int) + (IntKind.wrap .i64 ((IntKind.wrap .u64 more2) % (10 : Int)))))⟩ : Slc) t101 ∧
        Calls Tryd.prog fn_pack_Out_Text ⟨[(Value.pointer (some (⟨r97, 0, none⟩ : Addr))), (strV t101)]⟩ w100 fun e102 w103 =>
        e102 = .returned (Value.tuple #[]) ∧
        Calls Tryd.prog fn_pack_Out_Done ⟨[(Value.pointer (some (⟨r97, 0, none⟩ : Addr)))]⟩ w103 fun e104 w105 =>
        ∃ s106 : Slc, ∃ e107 : Value, e104 = .returned (Value.tuple ⟨[(Slc.v s106), e107]⟩) ∧
        inR .i64 (((65530 : Int) + (IntKind.wrap .i64 ((IntKind.wrap .u64 more2) % (10 : Int)))) + (3 : Int)) ∧
        BIf (decide ((65536 : Int) < (((65530 : Int) + (IntKind.wrap .i64 ((IntKind.wrap .u64 more2) % (10 : Int)))) + (3 : Int)))) (
          BIf (decide (((s106.l : Nat) : Int) = (0 : Int))) (
            Calls Tryd.prog fn_tidewaternum_Num ⟨[e107]⟩ w105 fun e108 w109 =>
            ∃ n110 : Int, e108 = .returned (Value.int .i64 n110) ∧
            K (Value.bool (decide (n110 = (3 : Int)))) w109) (
            K (Value.bool false) w105)) (
          isI e107 ∧
          BIf (isNilI e107) (
            inR .i64 (((65530 : Int) + (IntKind.wrap .i64 ((IntKind.wrap .u64 more2) % (10 : Int)))) + (3 : Int)) ∧
            K (Value.bool (decide (((s106.l : Nat) : Int) = (((65530 : Int) + (IntKind.wrap .i64 ((IntKind.wrap .u64 more2) % (10 : Int)))) + (3 : Int))))) w105) (
            K (Value.bool false) w105)))))

theorem tidewaterlaw04_PackLeast_eq (b1 : Slc) (more2 : Int) (w : World) (K : Value → World → Prop) : tidewaterlaw04_PackLeast b1 more2 w K = denF Tryd.prog callB Tryd.f11 (.two .none (.two .none (.two .none (.two .none (.two .none (.two .none (.cut [] [4, 8, 9, 10, 26, 27, 28, 29, 30, 31, 32, 33, 34, 35, 36, 37, 38, 39, 40, 41, 42, 43, 44, 45, 46, 47, 48, 49, 50, 51, 52, 53, 54, 55, 56, 57, 58, 59, 60, 61, 62, 63, 64] (.cut [(40, Sh.bool)] [26, 27, 28, 29, 30, 31, 32, 33, 34, 35, 36, 37, 38, 39] .none .none) .none))))))) [(Slc.v b1), (Value.int .i64 more2)] w K := by kernel_rfl
theorem tidewaterlaw04_PackLeast_ok (b1 : Slc) (more2 : Int) {w : World} {R : Ending → World → Prop} (h : tidewaterlaw04_PackLeast b1 more2 w fun v w' => R (.returned v) w') : Calls Tryd.prog fn_tidewaterlaw04_PackLeast ⟨[(Slc.v b1), (Value.int .i64 more2)]⟩ w R :=
  calls_of_den callB_ok mixed Tryd.func11 (tidewaterlaw04_PackLeast_eq b1 more2 w _ ▸ h)

/-- tidewater/tidewaterlaw04.PackStops -/
def tidewaterlaw04_PackStops (b1 : Slc) (asks2 : Slc) (w : World) (K : Value → World → Prop) : Prop :=
  Calls Tryd.prog fn_tidewaterlaw04_alive ⟨[]⟩ w fun e3 w4 =>
  ∃ b5 : Bool, e3 = .returned (Value.bool b5) ∧
  BIf (!b5) (
    K (Value.bool false) w4) (
    ∃ J6 : World → Prop,
    (
      BIf (decide ((300 : Int) < ((b1.l : Nat) : Int))) (
        K (Value.bool true) w4) (
        BIf (decide ((20 : Int) < ((asks2.l : Nat) : Int))) (
          K (Value.bool true) w4) (
          J6 w4))) ∧ (
    ∀ w7 : World, J6 w7 → ∀ u8 u9 u10 u11 u12 u13 u14 u15 u16 : Value,
      Calls Tryd.prog fn_pack_Read ⟨[(Slc.v b1)]⟩ w7 fun e17 w18 =>
      ∃ p19 : Option Addr, e17 = .returned (Value.pointer p19) ∧
      Calls Tryd.prog fn_pack_In_Num ⟨[(Value.pointer p19), (Value.int .i64 (-1 : Int))]⟩ w18 fun e20 w21 =>
      ∃ n22 : Int, e20 = .returned (Value.int .i64 n22) ∧
      Calls Tryd.prog fn_pack_In_Left ⟨[(Value.pointer p19)]⟩ w21 fun e23 w24 =>
      ∃ n25 : Int, e23 = .returned (Value.int .i64 n25) ∧
      Calls Tryd.prog fn_pack_In_Err ⟨[(Value.pointer p19)]⟩ w24 fun e26 w27 =>
      ∃ e28 : Value, e26 = .returned e28 ∧
      isI e28 ∧
      BIf (isNilI e28) (
        K (Value.bool false) w27) (
        ∃ (I29 : (Int) → World → Prop) (mu30 : (Int) → World → Nat), I29 ((0 : Int)) w27 ∧ (
        ∀ i31 : Int, ∀ w32 : World, I29 i31 w32 → ∀ u33 u34 u35 u36 u37 u38 u39 u40 u41 u42 u43 u44 u45 u46 u47 u48 u49 u50 u51 u52 u53 u54 u55 u56 u57 u58 : Value,
          BIf (decide (i31 < ((asks2.l : Nat) : Int))) (
            needSome asks2.p fun a59 =>
            0 ≤ i31 ∧ i31 < ((asks2.l : Nat) : Int) ∧
            ∃ n60 : Int, ∃ n61 : Int, ∃ n62 : Int, rowAt w32 (Addr.add a59 ((Int.toNat i31) * 3)) 0 [(Value.int .i64 n60), (Value.int .i64 n61), (Value.int .i64 n62)] ∧
            newS w32 (.cells ⟨[(Value.int .i64 (0 : Int)), (Value.int .i64 (0 : Int)), (Value.int .i64 (0 : Int))]⟩ 74) fun r63 w64 =>
            canW w64 (⟨r63, 0, none⟩ : Addr) 3 ∧ ∀ w65 : World, w65 = setCells w64 (⟨r63, 0, none⟩ : Addr) 0 [(Value.int .i64 n60), (Value.int .i64 n61), (Value.int .i64 n62)] →
            ∃ n66 : Int, World.cell? w65 (⟨r63, 1, none⟩ : Addr) = some (Value.int .i64 n66) ∧
            Calls Tryd.prog fn_pack_In_Num ⟨[(Value.pointer p19), (Value.int .i64 n66)]⟩ w65 fun e67 w68 =>
            ∃ n69 : Int, e67 = .returned (Value.int .i64 n69) ∧
            BIf (!decide (n69 = (0 : Int))) (
              K (Value.bool false) w68) (
              ∃ n70 : Int, World.cell? w68 (⟨r63, 1, none⟩ : Addr) = some (Value.int .i64 n70) ∧
              Calls Tryd.prog fn_pack_In_Text ⟨[(Value.pointer p19), (Value.int .i64 n70)]⟩ w68 fun e71 w72 =>
              ∃ t73 : List UInt8, e71 = .returned (strV t73) ∧
              BIf (!decide (t73 = ([] : List UInt8))) (
                K (Value.bool false) w72) (
                ∃ n74 : Int, World.cell? w72 (⟨r63, 1, none⟩ : Addr) = some (Value.int .i64 n74) ∧
                Calls Tryd.prog fn_pack_In_Nums ⟨[(Value.pointer p19), (Value.int .i64 (5 : Int)), (Value.int .i64 n74)]⟩ w72 fun e75 w76 =>
                ∃ s77 : Slc, e75 = .returned (Slc.v s77) ∧
                BIf (!decide (((s77.l : Nat) : Int) = (0 : Int))) (
                  K (Value.bool false) w76) (
                  inR .i64 (i31 + (1 : Int)) ∧
                  (I29 ((i31 + (1 : Int))) w76 ∧ mu30 ((i31 + (1 : Int))) w76 < mu30 i31 w32))))) (
            newS w32 (.cells ⟨[(Slc.v (⟨none, 0, 0⟩ : Slc)), Value.nilIface]⟩ 67) fun r78 w79 =>
            Calls Tryd.prog fn_pack_Out_Num ⟨[(Value.pointer (some (⟨r78, 0, none⟩ : Addr))), (Value.int .i64 (-1 : Int))]⟩ w79 fun e80 w81 =>
            e80 = .returned (Value.tuple #[]) ∧
            Calls Tryd.prog fn_pack_Out_Num ⟨[(Value.pointer (some (⟨r78, 0, none⟩ : Addr))), (Value.int .i64 (3 : Int))]⟩ w81 fun e82 w83 =>
            e82 = .returned (Value.tuple #[]) ∧
            Calls Tryd.prog fn_pack_Out_Text ⟨[(Value.pointer (some (⟨r78, 0, none⟩ : Addr))), (strV ([120] : List UInt8))]⟩ w83 fun e84 w85 =>
            e84 = .returned (Value.tuple #[]) ∧
            Calls Tryd.prog fn_pack_Out_Done ⟨[(Value.pointer (some (⟨r78, 0, none⟩ : Addr)))]⟩ w85 fun e86 w87 =>
            ∃ s88 : Slc, ∃ e89 : Value, e86 = .returned (Value.tuple ⟨[(Slc.v s88), e89]⟩) ∧
            Calls Tryd.prog fn_pack_In_Left ⟨[(Value.pointer p19)]⟩ w87 fun e90 w91 =>
            ∃ n92 : Int, e90 = .returned (Value.int .i64 n92) ∧
            BIf (decide (n92 = n25)) (
              Calls Tryd.prog fn_pack_In_End ⟨[(Value.pointer p19)]⟩ w91 fun e93 w94 =>
              ∃ e95 : Value, e93 = .returned e95 ∧
              Calls Tryd.prog fn_tidewaternum_Num ⟨[e95]⟩ w94 fun e96 w97 =>
              ∃ n98 : Int, e96 = .returned (Value.int .i64 n98) ∧
              Calls Tryd.prog fn_tidewaternum_Num ⟨[e28]⟩ w97 fun e99 w100 =>
              ∃ n101 : Int, e99 = .returned (Value.int .i64 n101) ∧
              BIf (decide (n98 = n101)) (
                BIf (decide (((s88.l : Nat) : Int) = (0 : Int))) (
                  Calls Tryd.prog fn_tidewaternum_Num ⟨[e89]⟩ w100 fun e102 w103 =>
                  ∃ n104 : Int, e102 = .returned (Value.int .i64 n104) ∧
                  K (Value.bool (decide (n104 = (1 : Int)))) w103) (
                  K (Value.bool false) w100)) (
                K (Value.bool false) w100)) (
              K (Value.bool false) w91))))))

theorem tidewaterlaw04_PackStops_eq (b1 : Slc) (asks2 : Slc) (w : World) (K : Value → World → Prop) : tidewaterlaw04_PackStops b1 asks2 w K = denF Tryd.prog callB Tryd.f12 (.two .none (.two .none (.cut [] [4, 15, 16, 17, 18, 19, 20, 21, 22] .none (.two .none (.two .none (.two .none (.two .none (.two (.two .none (.one (.loop [(35, (Sh.int .i64))] [4, 9, 36, 37, 38, 39, 40, 41, 42, 43, 44, 45, 46, 47, 48, 49, 50, 51, 52, 53, 54, 55, 56, 57, 58, 59] .none))) .none)))))))) [(Slc.v b1), (Slc.v asks2)] w K := by kernel_rfl
theorem tidewaterlaw04_PackStops_ok (b1 : Slc) (asks2 : Slc) {w : World} {R : Ending → World → Prop} (h : tidewaterlaw04_PackStops b1 asks2 w fun v w' => R (.returned v) w') : Calls Tryd.prog fn_tidewaterlaw04_PackStops ⟨[(Slc.v b1), (Slc.v asks2)]⟩ w R :=
  calls_of_den callB_ok mixed Tryd.func12 (tidewaterlaw04_PackStops_eq b1 asks2 w _ ▸ h)

/-- tidewater/tidewaterlaw04.PackWrites -/
def tidewaterlaw04_PackWrites (items1 : Slc) (w : World) (K : Value → World → Prop) : Prop :=
  Calls Tryd.prog fn_tidewaterlaw04_alive ⟨[]⟩ w fun e2 w3 =>
  ∃ b4 : Bool, e2 = .returned (Value.bool b4) ∧
  BIf (!b4) (
    K (Value.bool false) w3) (
    Calls Tryd.prog fn_tidewaterlaw04_long ⟨[(Slc.v items1)]⟩ w3 fun e5 w6 =>
    ∃ b7 : Bool, e5 = .returned (Value.bool b7) ∧
    BIf b7 (
      K (Value.bool true) w6) (
      newS w6 (.cells ⟨[(Slc.v (⟨none, 0, 0⟩ : Slc)), Value.nilIface]⟩ 67) fun r8 w9 =>
      newS w9 (.cells ⟨[]⟩ 5) fun r10 w11 =>
      ∃ (I12 : (Slc) → (Bool) → (Int) → World → Prop) (mu13 : (Slc) → (Bool) → (Int) → World → Nat), I12 ((⟨(some (⟨r10, 0, none⟩ : Addr)), 0, 0⟩ : Slc)) (true) ((0 : Int)) w11 ∧ (
      ∀ want14 : Slc, ∀ ok15 : Bool, ∀ i16 : Int, ∀ w17 : World, I12 want14 ok15 i16 w17 → ∀ u18 u19 u20 u21 u22 u23 u24 u25 u26 u27 u28 u29 u30 u31 u32 u33 u34 u35 u36 u37 u38 u39 u40 u41 u42 u43 u44 u45 u46 u47 u48 u49 u50 u51 u52 u53 u54 u55 u56 u57 u58 u59 u60 u61 u62 u63 u64 u65 u66 u67 u68 u69 u70 u71 u72 u73 u74 u75 u76 u77 : Value,
        BIf (decide (i16 < ((items1.l : Nat) : Int))) (
          needSome items1.p fun a78 =>
          0 ≤ i16 ∧ i16 < ((items1.l : Nat) : Int) ∧
          ∃ n79 : Int, ∃ n80 : Int, ∃ t81 : List UInt8, ∃ s82 : Slc, rowAt w17 (Addr.add a78 ((Int.toNat i16) * 4)) 0 [(Value.int .i64 n79), (Value.int .i64 n80), (strV t81), (Slc.v s82)] ∧
          newS w17 (.cells ⟨[(Value.int .i64 (0 : Int)), (Value.int .i64 (0 : Int)), (strV ([] : List UInt8)), (Slc.v (⟨none, 0, 0⟩ : Slc))]⟩ 82) fun r83 w84 =>
          canW w84 (⟨r83, 0, none⟩ : Addr) 4 ∧ ∀ w85 : World, w85 = setCells w84 (⟨r83, 0, none⟩ : Addr) 0 [(Value.int .i64 n79), (Value.int .i64 n80), (strV t81), (Slc.v s82)] →
          ∃ n86 : Int, World.cell? w85 (⟨r83, 0, none⟩ : Addr) = some (Value.int .i64 n86) ∧
          BIf (decide (n86 = (0 : Int))) (
            ∃ n87 : Int, World.cell? w85 (⟨r83, 1, none⟩ : Addr) = some (Value.int .i64 n87) ∧
            Calls Tryd.prog fn_pack_Out_Num ⟨[(Value.pointer (some (⟨r8, 0, none⟩ : Addr))), (Value.int .i64 n87)]⟩ w85 fun e88 w89 =>
            e88 = .returned (Value.tuple #[]) ∧
            BIf ok15 (
              ∃ n90 : Int, World.cell? w89 (⟨r83, 1, none⟩ : Addr) = some (Value.int .i64 n90) ∧
              Calls Tryd.prog fn_tidewaterlaw04_right ⟨[(Value.int .i64 n90)]⟩ w89 fun e91 w92 =>
              ∃ b93 : Bool, e91 = .returned (Value.bool b93) ∧
              BIf b93 (
                ∃ n94 : Int, World.cell? w92 (⟨r83, 1, none⟩ : Addr) = some (Value.int .i64 n94) ∧
                Calls Tryd.prog fn_tidewaterref04_Num ⟨[(Value.int .i64 n94)]⟩ w92 fun e95 w96 =>
                ∃ s97 : Slc, e95 = .returned (Slc.v s97) ∧
                appendS 1 5 [(Value.int .u8 (0 : Int))] w96 want14 (.slc s97) fun s98 w99 =>
                inR .i64 (i16 + (1 : Int)) ∧
                (I12 (s98) (b93) ((i16 + (1 : Int))) w99 ∧ mu13 (s98) (b93) ((i16 + (1 : Int))) w99 < mu13 want14 ok15 i16 w17)) (
                inR .i64 (i16 + (1 : Int)) ∧
                (I12 (want14) (b93) ((i16 + (1 : Int))) w92 ∧ mu13 (want14) (b93) ((i16 + (1 : Int))) w92 < mu13 want14 ok15 i16 w17))) (
              inR .i64 (i16 + (1 : Int)) ∧
              (I12 (want14) (false) ((i16 + (1 : Int))) w89 ∧ mu13 (want14) (false) ((i16 + (1 : Int))) w89 < mu13 want14 ok15 i16 w17))) (
            BIf (decide (n86 = (1 : Int))) (
              ∃ t100 : List UInt8, World.cell? w85 (⟨r83, 2, none⟩ : Addr) = some (strV t100) ∧
              Calls Tryd.prog fn_pack_Out_Text ⟨[(Value.pointer (some (⟨r8, 0, none⟩ : Addr))), (strV t100)]⟩ w85 fun e101 w102 =>
              e101 = .returned (Value.tuple #[]) ∧
              ∃ t103 : List UInt8, World.cell? w102 (⟨r83, 2, none⟩ : Addr) = some (strV t103) ∧
              Calls Tryd.prog fn_tidewaterref04_Text ⟨[(strV t103)]⟩ w102 fun e104 w105 =>
              ∃ s106 : Slc, e104 = .returned (Slc.v s106) ∧
              appendS 1 5 [(Value.int .u8 (0 : Int))] w105 want14 (.slc s106) fun s107 w108 =>
              inR .i64 (i16 + (1 : Int)) ∧
              (I12 (s107) (ok15) ((i16 + (1 : Int))) w108 ∧ mu13 (s107) (ok15) ((i16 + (1 : Int))) w108 < mu13 want14 ok15 i16 w17)) (
              ∃ s109 : Slc, World.cell? w85 (⟨r83, 3, none⟩ : Addr) = some (Slc.v s109) ∧
              Calls Tryd.prog fn_pack_Out_Nums ⟨[(Value.pointer (some (⟨r8, 0, none⟩ : Addr))), (Slc.v s109)]⟩ w85 fun e110 w111 =>
              e110 = .returned (Value.tuple #[]) ∧
              ∃ s112 : Slc, World.cell? w111 (⟨r83, 3, none⟩ : Addr) = some (Slc.v s112) ∧
              ∃ (I113 : (Bool) → (Int) → World → Prop) (mu114 : (Bool) → (Int) → World → Nat), I113 (ok15) ((0 : Int)) w111 ∧ (
              ∀ ok115 : Bool, ∀ i116 : Int, ∀ w117 : World, I113 ok115 i116 w117 → ∀ u118 u119 u120 u121 u122 u123 u124 u125 u126 u127 : Value,
                BIf (decide (i116 < ((s112.l : Nat) : Int))) (
                  needSome s112.p fun a128 =>
                  0 ≤ i116 ∧ i116 < ((s112.l : Nat) : Int) ∧
                  ∃ n129 : Int, World.cell? w117 (Addr.add a128 ((Int.toNat i116) * 1)) = some (Value.int .i64 n129) ∧
                  BIf ok115 (
                    Calls Tryd.prog fn_tidewaterlaw04_right ⟨[(Value.int .i64 n129)]⟩ w117 fun e130 w131 =>
                    ∃ b132 : Bool, e130 = .returned (Value.bool b132) ∧
                    inR .i64 (i116 + (1 : Int)) ∧
                    (I113 (b132) ((i116 + (1 : Int))) w131 ∧ mu114 (b132) ((i116 + (1 : Int))) w131 < mu114 ok115 i116 w117)) (
                    inR .i64 (i116 + (1 : Int)) ∧
                    (I113 (false) ((i116 + (1 : Int))) w117 ∧ mu114 (false) ((i116 + (1 : Int))) w117 < mu114 ok115 i116 w117))) (
                  BIf ok115 (
                    ∃ s133 : Slc, World.cell? w117 (⟨r83, 3, none⟩ : Addr) = some (Slc.v s133) ∧
                    Calls Tryd.prog fn_tidewaterref04_Nums ⟨[(Slc.v s133)]⟩ w117 fun e134 w135 =>
                    ∃ s136 : Slc, e134 = .returned (Slc.v s136) ∧
                    appendS 1 5 [(Value.int .u8 (0 : Int))] w135 want14 (.slc s136) fun s137 w138 =>
                    inR .i64 (i16 + (1 : Int)) ∧
                    (I12 (s137) (ok115) ((i16 + (1 : Int))) w138 ∧ mu13 (s137) (ok115) ((i16 + (1 : Int))) w138 < mu13 want14 ok15 i16 w17)) (
                    inR .i64 (i16 + (1 : Int)) ∧
                    (I12 (want14) (ok115) ((i16 + (1 : Int))) w117 ∧ mu13 (want14) (ok115) ((i16 + (1 : Int))) w117 < mu13 want14 ok15 i16 w17))))))) (
          Calls Tryd.prog fn_pack_Out_Done ⟨[(Value.pointer (some (⟨r8, 0, none⟩ : Addr)))]⟩ w17 fun e139 w140 =>
          ∃ s141 : Slc, ∃ e142 : Value, e139 = .returned (Value.tuple ⟨[(Slc.v s141), e142]⟩) ∧
          BIf (!ok15) (
            BIf (decide (((s141.l : Nat) : Int) = (0 : Int))) (
              Calls Tryd.prog fn_tidewaternum_Num ⟨[e142]⟩ w140 fun e143 w144 =>
              ∃ n145 : Int, e143 = .returned (Value.int .i64 n145) ∧
              K (Value.bool (decide (n145 = (1 : Int)))) w144) (
              K (Value.bool false) w140)) (
            isI e142 ∧
            BIf (isNilI e142) (
              ∃ t146 : List UInt8, bytesAt w140 s141 t146 ∧
              ∃ t147 : List UInt8, bytesAt w140 want14 t147 ∧
              BIf (decide (t146 = t147)) (
                Calls Tryd.prog fn_tidewaterlaw04_back ⟨[(Slc.v s141), (Slc.v items1)]⟩ w140 fun e148 w149 =>
                ∃ b150 : Bool, e148 = .returned (Value.bool b150) ∧
                K (Value.bool b150) w149) (
                K (Value.bool false) w140)) (
              K (Value.bool false) w140))))))

theorem tidewaterlaw04_PackWrites_eq (items1 : Slc) (w : World) (K : Value → World → Prop) : tidewaterlaw04_PackWrites items1 w K = denF Tryd.prog callB Tryd.f13 (.two .none (.two .none (.two .none (.two .none (.two .none (.two .none (.two (.two .none (.one (.loop [(4, Sh.slc), (5, Sh.bool), (21, (Sh.int .i64))] [7, 9, 22, 23, 24, 25, 26, 27, 28, 29, 30, 31, 32, 33, 34, 35, 36, 37, 38, 39, 40, 41, 42, 43, 44, 45, 46, 47, 48, 49, 50, 51, 52, 53, 54, 55, 56, 57, 58, 59, 60, 61, 62, 63, 64, 65, 66, 67, 68, 69, 70, 71, 72, 73, 74, 75, 76, 77, 78, 79] (.two .none (.two .none (.two (.one (.two .none (.two .none (.one (.two .none (.two .none (.two .none (.two .none (.two .none (.two (.two .none (.one (.loop [(5, Sh.bool), (34, (Sh.int .i64))] [9, 35, 36, 37, 38, 39, 40, 41, 42, 43] .none))) .none)))))))))) .none)))))) .none))))))) [(Slc.v items1)] w K := by kernel_rfl
theorem tidewaterlaw04_PackWrites_ok (items1 : Slc) {w : World} {R : Ending → World → Prop} (h : tidewaterlaw04_PackWrites items1 w fun v w' => R (.returned v) w') : Calls Tryd.prog fn_tidewaterlaw04_PackWrites ⟨[(Slc.v items1)]⟩ w R :=
  calls_of_den callB_ok mixed Tryd.func13 (tidewaterlaw04_PackWrites_eq items1 w _ ▸ h)

end Go.D
