/-
  WHAT IS PROVED: verification conditions of functions of this program, each with its soundness. No further conditions.
-/
import Derived.Test.YtpnchpkklamnnaaDoorBase
set_option linter.unusedSimpArgs false
set_option maxRecDepth 100000
set_option linter.unusedVariables false
namespace Go.D
open Go Go.Proofs
/-- tidewater/tidewaterlaw01.SumsOpens -/
def tidewaterlaw01_SumsOpens (b1 : Slc) (w : World) (K : Value → World → Prop) : Prop :=
  Calls Tryd.prog fn_tidewaterlaw01_alive ⟨[]⟩ w fun e2 w3 =>
  ∃ b4 : Bool, e2 = .returned (Value.bool b4) ∧
  BIf (!b4) (
    K (Value.bool false) w3) (
    BIf (decide ((3000 : Int) < ((b1.l : Nat) : Int))) (
      K (Value.bool true) w3) (
      Calls Tryd.prog fn_tidewaternum_Bytes ⟨[(Slc.v b1)]⟩ w3 fun e5 w6 =>
      ∃ s7 : Slc, e5 = .returned (Slc.v s7) ∧
      Calls Tryd.prog fn_sums_Open ⟨[(Slc.v s7)]⟩ w6 fun e8 w9 =>
      ∃ s10 : Slc, ∃ s11 : Slc, ∃ e12 : Value, e8 = .returned (Value.tuple ⟨[(Slc.v s10), (Slc.v s11), e12]⟩) ∧
      Calls Tryd.prog fn_tidewaterref01_Open ⟨[(Slc.v b1)]⟩ w9 fun e13 w14 =>
      ∃ s15 : Slc, ∃ s16 : Slc, ∃ n17 : Int, e13 = .returned (Value.tuple ⟨[(Slc.v s15), (Slc.v s16), (Value.int .i64 n17)]⟩) ∧
      ∃ t18 : List UInt8, bytesAt w14 s10 t18 ∧
      ∃ t19 : List UInt8, bytesAt w14 s15 t19 ∧
      BIf (decide (t18 = t19)) (
        ∃ t20 : List UInt8, bytesAt w14 s11 t20 ∧
        ∃ t21 : List UInt8, bytesAt w14 s16 t21 ∧
        BIf (decide (t20 = t21)) (
          Calls Tryd.prog fn_tidewaternum_Num ⟨[e12]⟩ w14 fun e22 w23 =>
          ∃ n24 : Int, e22 = .returned (Value.int .i64 n24) ∧
          BIf (decide (n24 = n17)) (
            Calls Tryd.prog fn_tidewaternum_Kept ⟨[(Slc.v s7), (Slc.v b1)]⟩ w23 fun e25 w26 =>
            ∃ b27 : Bool, e25 = .returned (Value.bool b27) ∧
            K (Value.bool b27) w26) (
            K (Value.bool false) w23)) (
          K (Value.bool false) w14)) (
        K (Value.bool false) w14)))

theorem tidewaterlaw01_SumsOpens_eq (b1 : Slc) (w : World) (K : Value → World → Prop) : tidewaterlaw01_SumsOpens b1 w K = denF Tryd.prog callB Tryd.f4 .none [(Slc.v b1)] w K := by kernel_rfl
theorem tidewaterlaw01_SumsOpens_ok (b1 : Slc) {w : World} {R : Ending → World → Prop} (h : tidewaterlaw01_SumsOpens b1 w fun v w' => R (.returned v) w') : Calls Tryd.prog fn_tidewaterlaw01_SumsOpens ⟨[(Slc.v b1)]⟩ w R :=
  calls_of_den callB_ok mixed Tryd.func4 (tidewaterlaw01_SumsOpens_eq b1 w _ ▸ h)

/-- tidewater/tidewaterlaw01.SumsFrames -/
def tidewaterlaw01_SumsFrames (b1 : Slc) (behind2 : Slc) (w : World) (K : Value → World → Prop) : Prop :=
  Calls Tryd.prog fn_tidewaterlaw01_alive ⟨[]⟩ w fun e3 w4 =>
  ∃ b5 : Bool, e3 = .returned (Value.bool b5) ∧
  BIf (!b5) (
    K (Value.bool false) w4) (
    ∃ J6 : World → Prop,
    (
      BIf (decide ((3000 : Int) < ((b1.l : Nat) : Int))) (
        K (Value.bool true) w4) (
        BIf (decide ((300 : Int) < ((behind2.l : Nat) : Int))) (
          K (Value.bool true) w4) (
          J6 w4))) ∧ (
    ∀ w7 : World, J6 w7 → ∀ u8 u9 u10 u11 u12 u13 u14 u15 u16 : Value,
      Calls Tryd.prog fn_tidewaternum_Bytes ⟨[(Slc.v b1)]⟩ w7 fun e17 w18 =>
      ∃ s19 : Slc, e17 = .returned (Slc.v s19) ∧
      Calls Tryd.prog fn_sums_Frame ⟨[(Slc.v s19)]⟩ w18 fun e20 w21 =>
      ∃ s22 : Slc, ∃ e23 : Value, e20 = .returned (Value.tuple ⟨[(Slc.v s22), e23]⟩) ∧
      Calls Tryd.prog fn_tidewaternum_Kept ⟨[(Slc.v s19), (Slc.v b1)]⟩ w21 fun e24 w25 =>
      ∃ b26 : Bool, e24 = .returned (Value.bool b26) ∧
      BIf (!b26) (
        K (Value.bool false) w25) (
        BIf (decide ((2048 : Int) < ((b1.l : Nat) : Int))) (
          BIf (decide (((s22.l : Nat) : Int) = (0 : Int))) (
            Calls Tryd.prog fn_tidewaternum_Num ⟨[e23]⟩ w25 fun e27 w28 =>
            ∃ n29 : Int, e27 = .returned (Value.int .i64 n29) ∧
            BIf (decide (n29 = (3 : Int))) (
              Calls Tryd.prog fn_sums_Size ⟨[(Value.int .i64 ((b1.l : Nat) : Int))]⟩ w28 fun e30 w31 =>
              ∃ n32 : Int, e30 = .returned (Value.int .i64 n32) ∧
              K (Value.bool (decide (n32 = (0 : Int)))) w31) (
              K (Value.bool false) w28)) (
            K (Value.bool false) w25)) (
          newS w25 (.cells ⟨[]⟩ 5) fun r33 w34 =>
          appendS 1 5 [(Value.int .u8 (0 : Int))] w34 (⟨(some (⟨r33, 0, none⟩ : Addr)), 0, 0⟩ : Slc) (.slc s22) fun s35 w36 =>
          appendS 1 5 [(Value.int .u8 (0 : Int))] w36 s35 (.slc behind2) fun s37 w38 =>
          Calls Tryd.prog fn_sums_Open ⟨[(Slc.v s37)]⟩ w38 fun e39 w40 =>
          ∃ s41 : Slc, ∃ s42 : Slc, ∃ e43 : Value, e39 = .returned (Value.tuple ⟨[(Slc.v s41), (Slc.v s42), e43]⟩) ∧
          isI e23 ∧
          BIf (isNilI e23) (
            ∃ t44 : List UInt8, bytesAt (World.drew w40) s22 t44 ∧
            Calls Tryd.prog fn_tidewaterref01_Frame ⟨[(Slc.v b1)]⟩ (World.drew w40) fun e45 w46 =>
            ∃ s47 : Slc, e45 = .returned (Slc.v s47) ∧
            (∃ t48 : List UInt8, bytesAt w46 s22 t48 ∧
            (strV t48) = (strV t44)) ∧
            ∃ t49 : List UInt8, bytesAt w46 s47 t49 ∧
            BIf (decide (t44 = t49)) (
              Calls Tryd.prog fn_sums_Size ⟨[(Value.int .i64 ((b1.l : Nat) : Int))]⟩ w46 fun e50 w51 =>
              ∃ n52 : Int, e50 = .returned (Value.int .i64 n52) ∧
              BIf (decide (((s22.l : Nat) : Int) = n52)) (
                isI e43 ∧
                BIf (isNilI e43) (
                  ∃ t53 : List UInt8, bytesAt w51 s41 t53 ∧
                  ∃ t54 : List UInt8, bytesAt w51 b1 t54 ∧
                  BIf (decide (t53 = t54)) (
                    ∃ t55 : List UInt8, bytesAt w51 s42 t55 ∧
                    ∃ t56 : List UInt8, bytesAt w51 behind2 t56 ∧
                    K (Value.bool (decide (t55 = t56))) w51) (
                    K (Value.bool false) w51)) (
                  K (Value.bool false) w51)) (
                K (Value.bool false) w51)) (
              K (Value.bool false) w46)) (
            K (Value.bool false) (World.drew w40))))))

theorem tidewaterlaw01_SumsFrames_eq (b1 : Slc) (behind2 : Slc) (w : World) (K : Value → World → Prop) : tidewaterlaw01_SumsFrames b1 behind2 w K = denF Tryd.prog callB Tryd.f5 (.two .none (.two .none (.cut [] [4, 13, 14, 15, 16, 17, 18, 19, 20] .none .none))) [(Slc.v b1), (Slc.v behind2)] w K := by kernel_rfl
theorem tidewaterlaw01_SumsFrames_ok (b1 : Slc) (behind2 : Slc) {w : World} {R : Ending → World → Prop} (h : tidewaterlaw01_SumsFrames b1 behind2 w fun v w' => R (.returned v) w') : Calls Tryd.prog fn_tidewaterlaw01_SumsFrames ⟨[(Slc.v b1), (Slc.v behind2)]⟩ w R :=
  calls_of_den callB_ok mixed Tryd.func5 (tidewaterlaw01_SumsFrames_eq b1 behind2 w _ ▸ h)

/-- tidewater/tidewaterlaw01.SumsBurst -/
def tidewaterlaw01_SumsBurst (b1 : Slc) (at2 : Int) (by3 : Int) (w : World) (K : Value → World → Prop) : Prop :=
  Calls Tryd.prog fn_tidewaterlaw01_alive ⟨[]⟩ w fun e4 w5 =>
  ∃ b6 : Bool, e4 = .returned (Value.bool b6) ∧
  BIf (!b6) (
    K (Value.bool false) w5) (
    ∃ J7 : World → Prop,
    (
      BIf (decide (((b1.l : Nat) : Int) < (4 : Int))) (
        K (Value.bool true) w5) (
        BIf (decide ((1000 : Int) < ((b1.l : Nat) : Int))) (
          K (Value.bool true) w5) (
          BIf (decide (by3 = (0 : Int))) (
            K (Value.bool true) w5) (
            J7 w5)))) ∧ (
    ∀ w8 : World, J7 w8 → ∀ u9 u10 u11 u12 u13 u14 u15 u16 u17 u18 u19 u20 u21 : Value,
      Calls Tryd.prog fn_sums_Frame ⟨[(Slc.v b1)]⟩ w8 fun e22 w23 =>
      ∃ s24 : Slc, ∃ e25 : Value, e22 = .returned (Value.tuple ⟨[(Slc.v s24), e25]⟩) ∧
      isI e25 ∧
      BIf (!isNilI e25) (
        K (Value.bool false) w23) (
        inR .i64 (((b1.l : Nat) : Int) - (3 : Int)) ∧
        0 ≤ (IntKind.wrap .u64 at2) ∧ 0 < (IntKind.wrap .u64 (((b1.l : Nat) : Int) - (3 : Int))) ∧
        inR .i64 ((6 : Int) + (IntKind.wrap .i64 ((IntKind.wrap .u64 at2) % (IntKind.wrap .u64 (((b1.l : Nat) : Int) - (3 : Int)))))) ∧
        newS w23 (.cells ⟨[]⟩ 5) fun r26 w27 =>
        appendS 1 5 [(Value.int .u8 (0 : Int))] w27 (⟨(some (⟨r26, 0, none⟩ : Addr)), 0, 0⟩ : Slc) (.slc s24) fun s28 w29 =>
        newS w29 (.cells ⟨[]⟩ 5) fun r30 w31 =>
        appendS 1 5 [(Value.int .u8 (0 : Int))] w31 (⟨(some (⟨r30, 0, none⟩ : Addr)), 0, 0⟩ : Slc) (.slc s24) fun s32 w33 =>
        ∃ (I34 : (Int) → World → Prop) (mu35 : (Int) → World → Nat), I34 ((0 : Int)) w33 ∧ (
        ∀ i36 : Int, ∀ w37 : World, I34 i36 w37 → ∀ u38 u39 u40 u41 u42 u43 u44 u45 u46 u47 u48 u49 u50 u51 u52 u53 u54 u55 u56 u57 u58 u59 u60 u61 u62 u63 u64 u65 u66 : Value,
          BIf (decide (i36 < (4 : Int))) (
            inR .i64 (((6 : Int) + (IntKind.wrap .i64 ((IntKind.wrap .u64 at2) % (IntKind.wrap .u64 (((b1.l : Nat) : Int) - (3 : Int)))))) + i36) ∧
            needSome s28.p fun a67 =>
            0 ≤ (((6 : Int) + (IntKind.wrap .i64 ((IntKind.wrap .u64 at2) % (IntKind.wrap .u64 (((b1.l : Nat) : Int) - (3 : Int)))))) + i36) ∧ (((6 : Int) + (IntKind.wrap .i64 ((IntKind.wrap .u64 at2) % (IntKind.wrap .u64 (((b1.l : Nat) : Int) - (3 : Int)))))) + i36) < ((s28.l : Nat) : Int) ∧
            ∃ n68 : Int, World.cell? (World.drew w37) (Addr.add a67 ((Int.toNat (((6 : Int) + (IntKind.wrap .i64 ((IntKind.wrap .u64 at2) % (IntKind.wrap .u64 (((b1.l : Nat) : Int) - (3 : Int)))))) + i36)) * 1)) = some (Value.int .u8 n68) ∧
            inR .i64 ((8 : Int) * i36) ∧
            0 ≤ ((8 : Int) * i36) ∧ 0 ≤ by3 ∧
            0 ≤ n68 ∧ 0 ≤ (IntKind.wrap .u8 (by3 / ((2 ^ min (Int.toNat ((8 : Int) * i36)) 32 : Nat) : Int))) ∧ inR .u8 n68 ∧ inR .u8 (IntKind.wrap .u8 (by3 / ((2 ^ min (Int.toNat ((8 : Int) * i36)) 32 : Nat) : Int))) ∧
            needSome s28.p fun a69 =>
            0 ≤ (((6 : Int) + (IntKind.wrap .i64 ((IntKind.wrap .u64 at2) % (IntKind.wrap .u64 (((b1.l : Nat) : Int) - (3 : Int)))))) + i36) ∧ (((6 : Int) + (IntKind.wrap .i64 ((IntKind.wrap .u64 at2) % (IntKind.wrap .u64 (((b1.l : Nat) : Int) - (3 : Int)))))) + i36) < ((s28.l : Nat) : Int) ∧
            canW (World.drew w37) (Addr.add a69 ((Int.toNat (((6 : Int) + (IntKind.wrap .i64 ((IntKind.wrap .u64 at2) % (IntKind.wrap .u64 (((b1.l : Nat) : Int) - (3 : Int)))))) + i36)) * 1)) 1 ∧ ∀ w70 : World, w70 = World.setCell (World.drew w37) (Addr.add a69 ((Int.toNat (((6 : Int) + (IntKind.wrap .i64 ((IntKind.wrap .u64 at2) % (IntKind.wrap .u64 (((b1.l : Nat) : Int) - (3 : Int)))))) + i36)) * 1)) (Value.int .u8 (bitsI .xor n68 (IntKind.wrap .u8 (by3 / ((2 ^ min (Int.toNat ((8 : Int) * i36)) 32 : Nat) : Int))))) →
            inR .i64 ((2 : Int) + i36) ∧
            needSome s32.p fun a71 =>
            0 ≤ ((2 : Int) + i36) ∧ ((2 : Int) + i36) < ((s32.l : Nat) : Int) ∧
            ∃ n72 : Int, World.cell? (World.drew w70) (Addr.add a71 ((Int.toNat ((2 : Int) + i36)) * 1)) = some (Value.int .u8 n72) ∧
            inR .i64 ((8 : Int) * i36) ∧
            0 ≤ ((8 : Int) * i36) ∧ 0 ≤ by3 ∧
            0 ≤ n72 ∧ 0 ≤ (IntKind.wrap .u8 (by3 / ((2 ^ min (Int.toNat ((8 : Int) * i36)) 32 : Nat) : Int))) ∧ inR .u8 n72 ∧ inR .u8 (IntKind.wrap .u8 (by3 / ((2 ^ min (Int.toNat ((8 : Int) * i36)) 32 : Nat) : Int))) ∧
            needSome s32.p fun a73 =>
            0 ≤ ((2 : Int) + i36) ∧ ((2 : Int) + i36) < ((s32.l : Nat) : Int) ∧
            canW (World.drew w70) (Addr.add a73 ((Int.toNat ((2 : Int) + i36)) * 1)) 1 ∧ ∀ w74 : World, w74 = World.setCell (World.drew w70) (Addr.add a73 ((Int.toNat ((2 : Int) + i36)) * 1)) (Value.int .u8 (bitsI .xor n72 (IntKind.wrap .u8 (by3 / ((2 ^ min (Int.toNat ((8 : Int) * i36)) 32 : Nat) : Int))))) →
            inR .i64 (i36 + (1 : Int)) ∧
            (I34 ((i36 + (1 : Int))) w74 ∧ mu35 ((i36 + (1 : Int))) w74 < mu35 i36 w37)) (
            Calls Tryd.prog fn_sums_Open ⟨[(Slc.v s28)]⟩ w37 fun e75 w76 =>
            ∃ s77 : Slc, ∃ s78 : Slc, ∃ e79 : Value, e75 = .returned (Value.tuple ⟨[(Slc.v s77), (Slc.v s78), e79]⟩) ∧
            Calls Tryd.prog fn_sums_Open ⟨[(Slc.v s32)]⟩ w76 fun e80 w81 =>
            ∃ s82 : Slc, ∃ s83 : Slc, ∃ e84 : Value, e80 = .returned (Value.tuple ⟨[(Slc.v s82), (Slc.v s83), e84]⟩) ∧
            BIf (decide (((s77.l : Nat) : Int) = (0 : Int))) (
              BIf (decide (((s82.l : Nat) : Int) = (0 : Int))) (
                Calls Tryd.prog fn_tidewaternum_Num ⟨[e79]⟩ w81 fun e85 w86 =>
                ∃ n87 : Int, e85 = .returned (Value.int .i64 n87) ∧
                BIf (decide (n87 = (5 : Int))) (
                  Calls Tryd.prog fn_tidewaternum_Num ⟨[e84]⟩ w86 fun e88 w89 =>
                  ∃ n90 : Int, e88 = .returned (Value.int .i64 n90) ∧
                  K (Value.bool (decide (n90 = (5 : Int)))) w89) (
                  K (Value.bool false) w86)) (
                K (Value.bool false) w81)) (
              K (Value.bool false) w81))))))

theorem tidewaterlaw01_SumsBurst_eq (b1 : Slc) (at2 : Int) (by3 : Int) (w : World) (K : Value → World → Prop) : tidewaterlaw01_SumsBurst b1 at2 by3 w K = denF Tryd.prog callB Tryd.f6 (.two .none (.two .none (.cut [] [6, 21, 22, 23, 24, 25, 26, 27, 28, 29, 30, 31, 32] .none (.two .none (.two .none (.two .none (.two .none (.two (.two .none (.one (.loop [(55, (Sh.int .i64))] [12, 56, 57, 58, 59, 60, 61, 62, 63, 64, 65, 66, 67, 68, 69, 70, 71, 72, 73, 74, 75, 76, 77, 78, 79, 80, 81, 82, 83] .none))) .none)))))))) [(Slc.v b1), (Value.int .i64 at2), (Value.int .u32 by3)] w K := by kernel_rfl
theorem tidewaterlaw01_SumsBurst_ok (b1 : Slc) (at2 : Int) (by3 : Int) {w : World} {R : Ending → World → Prop} (h : tidewaterlaw01_SumsBurst b1 at2 by3 w fun v w' => R (.returned v) w') : Calls Tryd.prog fn_tidewaterlaw01_SumsBurst ⟨[(Slc.v b1), (Value.int .i64 at2), (Value.int .u32 by3)]⟩ w R :=
  calls_of_den callB_ok mixed Tryd.func6 (tidewaterlaw01_SumsBurst_eq b1 at2 by3 w _ ▸ h)

end Go.D
