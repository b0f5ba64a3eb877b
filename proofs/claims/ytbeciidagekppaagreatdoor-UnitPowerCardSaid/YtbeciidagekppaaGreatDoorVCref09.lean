/-
  WHAT IS PROVED: verification conditions of functions of this program, each with its soundness. No further conditions.
-/
import Derived.Test.YtbeciidagekppaaGreatDoorBase
set_option linter.unusedSimpArgs false
set_option maxRecDepth 100000
set_option linter.unusedVariables false
namespace Go.D
open Go Go.Proofs
/-- tidewater/tidewaterref09.New -/
def tidewaterref09_New (places1 : Int) (w : World) (K : Value → World → Prop) : Prop :=
  newS w (.cells ⟨[(Value.int .i64 places1), (Slc.v (⟨none, 0, 0⟩ : Slc))]⟩ 73) fun r2 w3 =>
  newS w3 (.cells ⟨[(Value.pointer (some (⟨r2, 0, none⟩ : Addr))), (Slc.v (⟨none, 0, 0⟩ : Slc)), (Slc.v (⟨none, 0, 0⟩ : Slc)), (Slc.v (⟨none, 0, 0⟩ : Slc)), (Value.int .i64 (0 : Int)), (Value.int .i64 (0 : Int)), (Value.int .i64 (0 : Int))]⟩ 70) fun r4 w5 =>
  K (Value.pointer (some (⟨r4, 0, none⟩ : Addr))) w5

theorem tidewaterref09_New_eq (places1 : Int) (w : World) (K : Value → World → Prop) : tidewaterref09_New places1 w K = denF Tryz.prog callB Tryz.f24 .none [(Value.int .i64 places1)] w K := by kernel_rfl
theorem tidewaterref09_New_ok (places1 : Int) {w : World} {R : Ending → World → Prop} (h : tidewaterref09_New places1 w fun v w' => R (.returned v) w') : Calls Tryz.prog fn_tidewaterref09_New ⟨[(Value.int .i64 places1)]⟩ w R :=
  calls_of_den callB_ok mixed Tryz.func24 (tidewaterref09_New_eq places1 w _ ▸ h)

/-- (*tidewater/tidewaterref09.Unit).find -/
def tidewaterref09_Unit_find (u1 : Option Addr) (at2 : Int) (w : World) (K : Value → World → Prop) : Prop :=
  needSome u1 fun a3 =>
  ∃ s4 : Slc, World.cell? w (a3.add 1) = some (Slc.v s4) ∧
  ∃ (I5 : (Int) → World → Prop) (mu6 : (Int) → World → Nat), I5 ((0 : Int)) w ∧ (
  ∀ i7 : Int, ∀ w8 : World, I5 i7 w8 → ∀ u9 u10 u11 u12 u13 u14 u15 u16 u17 u18 u19 u20 u21 u22 u23 u24 u25 u26 u27 u28 : Value,
    BIf (decide (i7 < ((s4.l : Nat) : Int))) (
      needSome s4.p fun a29 =>
      0 ≤ i7 ∧ i7 < ((s4.l : Nat) : Int) ∧
      ∃ n30 : Int, World.cell? w8 (Addr.add a29 ((Int.toNat i7) * 1)) = some (Value.int .i64 n30) ∧
      BIf (decide (n30 = at2)) (
        needSome u1 fun a31 =>
        ∃ n32 : Int, World.cell? w8 (a31.add 4) = some (Value.int .i64 n32) ∧
        BIf (decide (n32 ≤ at2)) (
          K (Value.int .i64 i7) w8) (
          inR .i64 (i7 + (1 : Int)) ∧
          (I5 ((i7 + (1 : Int))) w8 ∧ mu6 ((i7 + (1 : Int))) w8 < mu6 i7 w8))) (
        inR .i64 (i7 + (1 : Int)) ∧
        (I5 ((i7 + (1 : Int))) w8 ∧ mu6 ((i7 + (1 : Int))) w8 < mu6 i7 w8))) (
      K (Value.int .i64 (-1 : Int)) w8))

theorem tidewaterref09_Unit_find_eq (u1 : Option Addr) (at2 : Int) (w : World) (K : Value → World → Prop) : tidewaterref09_Unit_find u1 at2 w K = denF Tryz.prog callB Tryz.f52 (.two .none (.two (.two .none (.one (.loop [(12, (Sh.int .i64))] [4, 5, 6, 13, 14, 15, 16, 17, 18, 19, 20, 21, 22, 23, 24, 25, 26, 27, 28, 29] .none))) .none)) [(Value.pointer u1), (Value.int .i64 at2)] w K := by kernel_rfl
theorem tidewaterref09_Unit_find_ok (u1 : Option Addr) (at2 : Int) {w : World} {R : Ending → World → Prop} (h : tidewaterref09_Unit_find u1 at2 w fun v w' => R (.returned v) w') : Calls Tryz.prog fn_tidewaterref09_Unit_find ⟨[(Value.pointer u1), (Value.int .i64 at2)]⟩ w R :=
  calls_of_den callB_ok mixed Tryz.func52 (tidewaterref09_Unit_find_eq u1 at2 w _ ▸ h)

/-- (*tidewater/tidewaterref09.Unit).Has -/
def tidewaterref09_Unit_Has (u1 : Option Addr) (at2 : Int) (w : World) (K : Value → World → Prop) : Prop :=
  Calls Tryz.prog fn_tidewaterref09_Unit_find ⟨[(Value.pointer u1), (Value.int .i64 at2)]⟩ w fun e3 w4 =>
  ∃ n5 : Int, e3 = .returned (Value.int .i64 n5) ∧
  K (Value.bool (decide ((0 : Int) ≤ n5))) w4

theorem tidewaterref09_Unit_Has_eq (u1 : Option Addr) (at2 : Int) (w : World) (K : Value → World → Prop) : tidewaterref09_Unit_Has u1 at2 w K = denF Tryz.prog callB Tryz.f32 .none [(Value.pointer u1), (Value.int .i64 at2)] w K := by kernel_rfl
theorem tidewaterref09_Unit_Has_ok (u1 : Option Addr) (at2 : Int) {w : World} {R : Ending → World → Prop} (h : tidewaterref09_Unit_Has u1 at2 w fun v w' => R (.returned v) w') : Calls Tryz.prog fn_tidewaterref09_Unit_Has ⟨[(Value.pointer u1), (Value.int .i64 at2)]⟩ w R :=
  calls_of_den callB_ok mixed Tryz.func32 (tidewaterref09_Unit_Has_eq u1 at2 w _ ▸ h)

/-- (*tidewater/tidewaterref09.Unit).check -/
def tidewaterref09_Unit_check (u1 : Option Addr) (epoch2 : Int) (at3 : Int) (most4 : Int) (w : World) (K : Value → World → Prop) : Prop :=
  needSome u1 fun a5 =>
  ∃ n6 : Int, World.cell? w (a5.add 5) = some (Value.int .i64 n6) ∧
  BIf (decide (epoch2 < n6)) (
    K (Value.int .i64 (8 : Int)) w) (
    BIf (decide ((1073741824 : Int) < epoch2)) (
      K (Value.int .i64 (8 : Int)) w) (
      BIf (decide (at3 < (0 : Int))) (
        K (Value.int .i64 (1 : Int)) w) (
        BIf (decide (most4 < at3)) (
          K (Value.int .i64 (1 : Int)) w) (
          K (Value.int .i64 (0 : Int)) w))))

theorem tidewaterref09_Unit_check_eq (u1 : Option Addr) (epoch2 : Int) (at3 : Int) (most4 : Int) (w : World) (K : Value → World → Prop) : tidewaterref09_Unit_check u1 epoch2 at3 most4 w K = denF Tryz.prog callB Tryz.f43 .none [(Value.pointer u1), (Value.int .i64 epoch2), (Value.int .i64 at3), (Value.int .i64 most4)] w K := by kernel_rfl
theorem tidewaterref09_Unit_check_ok (u1 : Option Addr) (epoch2 : Int) (at3 : Int) (most4 : Int) {w : World} {R : Ending → World → Prop} (h : tidewaterref09_Unit_check u1 epoch2 at3 most4 w fun v w' => R (.returned v) w') : Calls Tryz.prog fn_tidewaterref09_Unit_check ⟨[(Value.pointer u1), (Value.int .i64 epoch2), (Value.int .i64 at3), (Value.int .i64 most4)]⟩ w R :=
  calls_of_den callB_ok mixed Tryz.func43 (tidewaterref09_Unit_check_eq u1 epoch2 at3 most4 w _ ▸ h)

/-- tidewater/tidewaterref09.row -/
def tidewaterref09_row (parts1 : Slc) (w : World) (K : Value → World → Prop) : Prop :=
  newS w (.cells ⟨[]⟩ 5) fun r2 w3 =>
  ∃ (I4 : (Slc) → (Int) → World → Prop) (mu5 : (Slc) → (Int) → World → Nat), I4 ((⟨(some (⟨r2, 0, none⟩ : Addr)), 0, 0⟩ : Slc)) ((0 : Int)) w3 ∧ (
  ∀ out6 : Slc, ∀ i7 : Int, ∀ w8 : World, I4 out6 i7 w8 → ∀ u9 u10 u11 u12 u13 u14 u15 u16 : Value,
    BIf (decide (i7 < ((parts1.l : Nat) : Int))) (
      needSome parts1.p fun a17 =>
      0 ≤ i7 ∧ i7 < ((parts1.l : Nat) : Int) ∧
      ∃ s18 : Slc, World.cell? w8 (Addr.add a17 ((Int.toNat i7) * 1)) = some (Slc.v s18) ∧
      appendS 1 5 [(Value.int .u8 (0 : Int))] w8 out6 (.slc s18) fun s19 w20 =>
      inR .i64 (i7 + (1 : Int)) ∧
      (I4 (s19) ((i7 + (1 : Int))) w20 ∧ mu5 (s19) ((i7 + (1 : Int))) w20 < mu5 out6 i7 w8)) (
      K (Slc.v out6) w8))

theorem tidewaterref09_row_eq (parts1 : Slc) (w : World) (K : Value → World → Prop) : tidewaterref09_row parts1 w K = denF Tryz.prog callB Tryz.f45 (.two .none (.two .none (.two (.two .none (.one (.loop [(3, Sh.slc), (9, (Sh.int .i64))] [5, 10, 11, 12, 13, 14, 15, 16] .none))) .none))) [(Slc.v parts1)] w K := by kernel_rfl
theorem tidewaterref09_row_ok (parts1 : Slc) {w : World} {R : Ending → World → Prop} (h : tidewaterref09_row parts1 w fun v w' => R (.returned v) w') : Calls Tryz.prog fn_tidewaterref09_row ⟨[(Slc.v parts1)]⟩ w R :=
  calls_of_den callB_ok mixed Tryz.func45 (tidewaterref09_row_eq parts1 w _ ▸ h)

/-- (*tidewater/tidewaterref09.Unit).Write -/
def tidewaterref09_Unit_Write (u1 : Option Addr) (epoch2 : Int) (at3 : Int) (b4 : Slc) (w : World) (K : Value → World → Prop) : Prop :=
  Calls Tryz.prog fn_tidewaterref09_Unit_check ⟨[(Value.pointer u1), (Value.int .i64 epoch2), (Value.int .i64 at3), (Value.int .i64 (4095 : Int))]⟩ w fun e5 w6 =>
  ∃ n7 : Int, e5 = .returned (Value.int .i64 n7) ∧
  BIf (!decide (n7 = (0 : Int))) (
    K (Value.int .i64 n7) w6) (
    ∃ J8 : World → Prop,
    (
      BIf (decide (((b4.l : Nat) : Int) < (1 : Int))) (
        K (Value.int .i64 (3 : Int)) w6) (
        BIf (decide ((2048 : Int) < ((b4.l : Nat) : Int))) (
          K (Value.int .i64 (3 : Int)) w6) (
          J8 w6))) ∧ (
    ∀ w9 : World, J8 w9 → ∀ u10 u11 u12 u13 u14 u15 u16 u17 u18 : Value,
      needSome u1 fun a19 =>
      ∃ n20 : Int, World.cell? w9 (a19.add 4) = some (Value.int .i64 n20) ∧
      BIf (decide (at3 < n20)) (
        K (Value.int .i64 (11 : Int)) w9) (
        Calls Tryz.prog fn_tidewaterref09_Unit_Has ⟨[(Value.pointer u1), (Value.int .i64 at3)]⟩ w9 fun e21 w22 =>
        ∃ b23 : Bool, e21 = .returned (Value.bool b23) ∧
        BIf b23 (
          K (Value.int .i64 (9 : Int)) w22) (
          needSome u1 fun a24 =>
          ∃ p25 : Option Addr, World.cell? (World.drew w22) a24 = some (Value.pointer p25) ∧
          ∃ t26 : List UInt8, bytesAt (World.drew w22) b4 t26 ∧
          Calls Tryz.prog fn_tidewaterref04_Num ⟨[(Value.int .i64 (1 : Int))]⟩ (World.drew w22) fun e27 w28 =>
          ∃ s29 : Slc, e27 = .returned (Slc.v s29) ∧
          (∃ t30 : List UInt8, bytesAt w28 b4 t30 ∧
          (strV t30) = (strV t26)) ∧
          (∃ p31 : Option Addr, World.cell? w28 a24 = some (Value.pointer p31) ∧
          (Value.pointer p31) = (Value.pointer p25)) ∧
          Calls Tryz.prog fn_tidewaterref04_Num ⟨[(Value.int .i64 at3)]⟩ w28 fun e32 w33 =>
          ∃ s34 : Slc, e32 = .returned (Slc.v s34) ∧
          (∃ t35 : List UInt8, bytesAt w33 b4 t35 ∧
          (strV t35) = (strV t26)) ∧
          (∃ p36 : Option Addr, World.cell? w33 a24 = some (Value.pointer p36) ∧
          (Value.pointer p36) = (Value.pointer p25)) ∧
          Calls Tryz.prog fn_tidewaterref04_Text ⟨[(strV t26)]⟩ w33 fun e37 w38 =>
          ∃ s39 : Slc, e37 = .returned (Slc.v s39) ∧
          (∃ p40 : Option Addr, World.cell? w38 a24 = some (Value.pointer p40) ∧
          (Value.pointer p40) = (Value.pointer p25)) ∧
          newS w38 (.cells ⟨[(Slc.v s29), (Slc.v s34), (Slc.v s39)]⟩ 45) fun r41 w42 =>
          (∃ p43 : Option Addr, World.cell? w42 a24 = some (Value.pointer p43) ∧
          (Value.pointer p43) = (Value.pointer p25)) ∧
          Calls Tryz.prog fn_tidewaterref09_row ⟨[(Slc.v (⟨(some (⟨r41, 0, none⟩ : Addr)), 3, 3⟩ : Slc))]⟩ w42 fun e44 w45 =>
          ∃ s46 : Slc, e44 = .returned (Slc.v s46) ∧
          (∃ p47 : Option Addr, World.cell? w45 a24 = some (Value.pointer p47) ∧
          (Value.pointer p47) = (Value.pointer p25)) ∧
          Calls Tryz.prog fn_tidewaterref08_Store_Append ⟨[(Value.pointer p25), (Slc.v s46)]⟩ w45 fun e48 w49 =>
          ∃ n50 : Int, ∃ n51 : Int, e48 = .returned (Value.tuple ⟨[(Value.int .i64 n50), (Value.int .i64 n51)]⟩) ∧
          BIf (!decide (n51 = (0 : Int))) (
            K (Value.int .i64 n51) w49) (
            needSome u1 fun a52 =>
            ∃ s53 : Slc, World.cell? (World.drew w49) (a52.add 1) = some (Slc.v s53) ∧
            needSome u1 fun a54 =>
            ∃ s55 : Slc, World.cell? (World.drew w49) (a54.add 2) = some (Slc.v s55) ∧
            needSome u1 fun a56 =>
            ∃ s57 : Slc, World.cell? (World.drew w49) (a56.add 3) = some (Slc.v s57) ∧
            (
              newS (World.drew w49) (.cells ⟨[(Value.int .i64 at3)]⟩ 3) fun r58 w59 =>
              (∃ s60 : Slc, World.cell? w59 (a56.add 3) = some (Slc.v s60) ∧
              (Slc.v s60) = (Slc.v s57)) ∧
              (∃ s61 : Slc, World.cell? w59 (a54.add 2) = some (Slc.v s61) ∧
              (Slc.v s61) = (Slc.v s55)) ∧
              (∃ s62 : Slc, World.cell? w59 (a52.add 1) = some (Slc.v s62) ∧
              (Slc.v s62) = (Slc.v s53)) ∧
              (
                appendS 1 3 [(Value.int .i64 (0 : Int))] w59 s53 (.slc (⟨(some (⟨r58, 0, none⟩ : Addr)), 1, 1⟩ : Slc)) fun s63 w64 =>
                (∃ s65 : Slc, World.cell? w64 (a56.add 3) = some (Slc.v s65) ∧
                (Slc.v s65) = (Slc.v s57)) ∧
                (∃ s66 : Slc, World.cell? w64 (a54.add 2) = some (Slc.v s66) ∧
                (Slc.v s66) = (Slc.v s55)) ∧
                (
                  newS w64 (.cells ⟨[]⟩ 5) fun r67 w68 =>
                  (∃ s69 : Slc, World.cell? w68 (a56.add 3) = some (Slc.v s69) ∧
                  (Slc.v s69) = (Slc.v s57)) ∧
                  (∃ s70 : Slc, World.cell? w68 (a54.add 2) = some (Slc.v s70) ∧
                  (Slc.v s70) = (Slc.v s55)) ∧
                  (
                    appendS 1 5 [(Value.int .u8 (0 : Int))] w68 (⟨(some (⟨r67, 0, none⟩ : Addr)), 0, 0⟩ : Slc) (.slc b4) fun s71 w72 =>
                    (∃ s73 : Slc, World.cell? w72 (a56.add 3) = some (Slc.v s73) ∧
                    (Slc.v s73) = (Slc.v s57)) ∧
                    (∃ s74 : Slc, World.cell? w72 (a54.add 2) = some (Slc.v s74) ∧
                    (Slc.v s74) = (Slc.v s55)) ∧
                    (
                      newS w72 (.cells ⟨[(Slc.v s71)]⟩ 45) fun r75 w76 =>
                      (∃ s77 : Slc, World.cell? w76 (a56.add 3) = some (Slc.v s77) ∧
                      (Slc.v s77) = (Slc.v s57)) ∧
                      (∃ s78 : Slc, World.cell? w76 (a54.add 2) = some (Slc.v s78) ∧
                      (Slc.v s78) = (Slc.v s55)) ∧
                      (
                        appendS 1 45 [(Slc.v (⟨none, 0, 0⟩ : Slc))] w76 s55 (.slc (⟨(some (⟨r75, 0, none⟩ : Addr)), 1, 1⟩ : Slc)) fun s79 w80 =>
                        (∃ s81 : Slc, World.cell? w80 (a56.add 3) = some (Slc.v s81) ∧
                        (Slc.v s81) = (Slc.v s57)) ∧
                        newS w80 (.cells ⟨[(Value.int .i64 n50)]⟩ 3) fun r82 w83 =>
                        (∃ s84 : Slc, World.cell? w83 (a56.add 3) = some (Slc.v s84) ∧
                        (Slc.v s84) = (Slc.v s57)) ∧
                        appendS 1 3 [(Value.int .i64 (0 : Int))] w83 s57 (.slc (⟨(some (⟨r82, 0, none⟩ : Addr)), 1, 1⟩ : Slc)) fun s85 w86 =>
                        needSome u1 fun a87 =>
                        canW w86 (a87.add 1) 1 ∧ ∀ w88 : World, w88 = World.setCell w86 (a87.add 1) (Slc.v s63) →
                        needSome u1 fun a89 =>
                        canW w88 (a89.add 2) 1 ∧ ∀ w90 : World, w90 = World.setCell w88 (a89.add 2) (Slc.v s79) →
                        needSome u1 fun a91 =>
                        canW w90 (a91.add 3) 1 ∧ ∀ w92 : World, w92 = World.setCell w90 (a91.add 3) (Slc.v s85) →
                        inR .i64 (at3 + (1 : Int)) ∧
                        needSome u1 fun a93 =>
                        ∃ n94 : Int, World.cell? w92 (a93.add 6) = some (Value.int .i64 n94) ∧
                        BIf (decide (n94 < (at3 + (1 : Int)))) (
                          inR .i64 (at3 + (1 : Int)) ∧
                          needSome u1 fun a95 =>
                          canW w92 (a95.add 6) 1 ∧ ∀ w96 : World, w96 = World.setCell w92 (a95.add 6) (Value.int .i64 (at3 + (1 : Int))) →
                          K (Value.int .i64 (0 : Int)) w96) (
                          K (Value.int .i64 (0 : Int)) w92)) ∧
                      (
                        newS w76 (.cells ⟨[(Value.int .i64 n50)]⟩ 3) fun r97 w98 =>
                        (∃ s99 : Slc, World.cell? w98 (a56.add 3) = some (Slc.v s99) ∧
                        (Slc.v s99) = (Slc.v s57)) ∧
                        (∃ s100 : Slc, World.cell? w98 (a54.add 2) = some (Slc.v s100) ∧
                        (Slc.v s100) = (Slc.v s55)) ∧
                        appendS 1 45 [(Slc.v (⟨none, 0, 0⟩ : Slc))] w98 s55 (.slc (⟨(some (⟨r75, 0, none⟩ : Addr)), 1, 1⟩ : Slc)) fun s101 w102 =>
                        (∃ s103 : Slc, World.cell? w102 (a56.add 3) = some (Slc.v s103) ∧
                        (Slc.v s103) = (Slc.v s57)) ∧
                        appendS 1 3 [(Value.int .i64 (0 : Int))] w102 s57 (.slc (⟨(some (⟨r97, 0, none⟩ : Addr)), 1, 1⟩ : Slc)) fun s104 w105 =>
                        needSome u1 fun a106 =>
                        canW w105 (a106.add 1) 1 ∧ ∀ w107 : World, w107 = World.setCell w105 (a106.add 1) (Slc.v s63) →
                        needSome u1 fun a108 =>
                        canW w107 (a108.add 2) 1 ∧ ∀ w109 : World, w109 = World.setCell w107 (a108.add 2) (Slc.v s101) →
                        needSome u1 fun a110 =>
                        canW w109 (a110.add 3) 1 ∧ ∀ w111 : World, w111 = World.setCell w109 (a110.add 3) (Slc.v s104) →
                        inR .i64 (at3 + (1 : Int)) ∧
                        needSome u1 fun a112 =>
                        ∃ n113 : Int, World.cell? w111 (a112.add 6) = some (Value.int .i64 n113) ∧
                        BIf (decide (n113 < (at3 + (1 : Int)))) (
                          inR .i64 (at3 + (1 : Int)) ∧
                          needSome u1 fun a114 =>
                          canW w111 (a114.add 6) 1 ∧ ∀ w115 : World, w115 = World.setCell w111 (a114.add 6) (Value.int .i64 (at3 + (1 : Int))) →
                          K (Value.int .i64 (0 : Int)) w115) (
                          K (Value.int .i64 (0 : Int)) w111))) ∧
                    (
                      newS w72 (.cells ⟨[(Value.int .i64 n50)]⟩ 3) fun r116 w117 =>
                      (∃ s118 : Slc, World.cell? w117 (a56.add 3) = some (Slc.v s118) ∧
                      (Slc.v s118) = (Slc.v s57)) ∧
                      (∃ s119 : Slc, World.cell? w117 (a54.add 2) = some (Slc.v s119) ∧
                      (Slc.v s119) = (Slc.v s55)) ∧
                      newS w117 (.cells ⟨[(Slc.v s71)]⟩ 45) fun r120 w121 =>
                      (∃ s122 : Slc, World.cell? w121 (a56.add 3) = some (Slc.v s122) ∧
                      (Slc.v s122) = (Slc.v s57)) ∧
                      (∃ s123 : Slc, World.cell? w121 (a54.add 2) = some (Slc.v s123) ∧
                      (Slc.v s123) = (Slc.v s55)) ∧
                      appendS 1 45 [(Slc.v (⟨none, 0, 0⟩ : Slc))] w121 s55 (.slc (⟨(some (⟨r120, 0, none⟩ : Addr)), 1, 1⟩ : Slc)) fun s124 w125 =>
                      (∃ s126 : Slc, World.cell? w125 (a56.add 3) = some (Slc.v s126) ∧
                      (Slc.v s126) = (Slc.v s57)) ∧
                      appendS 1 3 [(Value.int .i64 (0 : Int))] w125 s57 (.slc (⟨(some (⟨r116, 0, none⟩ : Addr)), 1, 1⟩ : Slc)) fun s127 w128 =>
                      needSome u1 fun a129 =>
                      canW w128 (a129.add 1) 1 ∧ ∀ w130 : World, w130 = World.setCell w128 (a129.add 1) (Slc.v s63) →
                      needSome u1 fun a131 =>
                      canW w130 (a131.add 2) 1 ∧ ∀ w132 : World, w132 = World.setCell w130 (a131.add 2) (Slc.v s124) →
                      needSome u1 fun a133 =>
                      canW w132 (a133.add 3) 1 ∧ ∀ w134 : World, w134 = World.setCell w132 (a133.add 3) (Slc.v s127) →
                      inR .i64 (at3 + (1 : Int)) ∧
                      needSome u1 fun a135 =>
                      ∃ n136 : Int, World.cell? w134 (a135.add 6) = some (Value.int .i64 n136) ∧
                      BIf (decide (n136 < (at3 + (1 : Int)))) (
                        inR .i64 (at3 + (1 : Int)) ∧
                        needSome u1 fun a137 =>
                        canW w134 (a137.add 6) 1 ∧ ∀ w138 : World, w138 = World.setCell w134 (a137.add 6) (Value.int .i64 (at3 + (1 : Int))) →
                        K (Value.int .i64 (0 : Int)) w138) (
                        K (Value.int .i64 (0 : Int)) w134))) ∧
                  (
                    newS w68 (.cells ⟨[(Value.int .i64 n50)]⟩ 3) fun r139 w140 =>
                    (∃ s141 : Slc, World.cell? w140 (a56.add 3) = some (Slc.v s141) ∧
                    (Slc.v s141) = (Slc.v s57)) ∧
                    (∃ s142 : Slc, World.cell? w140 (a54.add 2) = some (Slc.v s142) ∧
                    (Slc.v s142) = (Slc.v s55)) ∧
                    appendS 1 5 [(Value.int .u8 (0 : Int))] w140 (⟨(some (⟨r67, 0, none⟩ : Addr)), 0, 0⟩ : Slc) (.slc b4) fun s143 w144 =>
                    (∃ s145 : Slc, World.cell? w144 (a56.add 3) = some (Slc.v s145) ∧
                    (Slc.v s145) = (Slc.v s57)) ∧
                    (∃ s146 : Slc, World.cell? w144 (a54.add 2) = some (Slc.v s146) ∧
                    (Slc.v s146) = (Slc.v s55)) ∧
                    newS w144 (.cells ⟨[(Slc.v s143)]⟩ 45) fun r147 w148 =>
                    (∃ s149 : Slc, World.cell? w148 (a56.add 3) = some (Slc.v s149) ∧
                    (Slc.v s149) = (Slc.v s57)) ∧
                    (∃ s150 : Slc, World.cell? w148 (a54.add 2) = some (Slc.v s150) ∧
                    (Slc.v s150) = (Slc.v s55)) ∧
                    appendS 1 45 [(Slc.v (⟨none, 0, 0⟩ : Slc))] w148 s55 (.slc (⟨(some (⟨r147, 0, none⟩ : Addr)), 1, 1⟩ : Slc)) fun s151 w152 =>
                    (∃ s153 : Slc, World.cell? w152 (a56.add 3) = some (Slc.v s153) ∧
                    (Slc.v s153) = (Slc.v s57)) ∧
                    appendS 1 3 [(Value.int .i64 (0 : Int))] w152 s57 (.slc (⟨(some (⟨r139, 0, none⟩ : Addr)), 1, 1⟩ : Slc)) fun s154 w155 =>
                    needSome u1 fun a156 =>
                    canW w155 (a156.add 1) 1 ∧ ∀ w157 : World, w157 = World.setCell w155 (a156.add 1) (Slc.v s63) →
                    needSome u1 fun a158 =>
                    canW w157 (a158.add 2) 1 ∧ ∀ w159 : World, w159 = World.setCell w157 (a158.add 2) (Slc.v s151) →
                    needSome u1 fun a160 =>
                    canW w159 (a160.add 3) 1 ∧ ∀ w161 : World, w161 = World.setCell w159 (a160.add 3) (Slc.v s154) →
                    inR .i64 (at3 + (1 : Int)) ∧
                    needSome u1 fun a162 =>
                    ∃ n163 : Int, World.cell? w161 (a162.add 6) = some (Value.int .i64 n163) ∧
                    BIf (decide (n163 < (at3 + (1 : Int)))) (
                      inR .i64 (at3 + (1 : Int)) ∧
                      needSome u1 fun a164 =>
                      canW w161 (a164.add 6) 1 ∧ ∀ w165 : World, w165 = World.setCell w161 (a164.add 6) (Value.int .i64 (at3 + (1 : Int))) →
                      K (Value.int .i64 (0 : Int)) w165) (
                      K (Value.int .i64 (0 : Int)) w161))) ∧
                (
                  newS w64 (.cells ⟨[(Value.int .i64 n50)]⟩ 3) fun r166 w167 =>
                  (∃ s168 : Slc, World.cell? w167 (a56.add 3) = some (Slc.v s168) ∧
                  (Slc.v s168) = (Slc.v s57)) ∧
                  (∃ s169 : Slc, World.cell? w167 (a54.add 2) = some (Slc.v s169) ∧
                  (Slc.v s169) = (Slc.v s55)) ∧
                  newS w167 (.cells ⟨[]⟩ 5) fun r170 w171 =>
                  (∃ s172 : Slc, World.cell? w171 (a56.add 3) = some (Slc.v s172) ∧
                  (Slc.v s172) = (Slc.v s57)) ∧
                  (∃ s173 : Slc, World.cell? w171 (a54.add 2) = some (Slc.v s173) ∧
                  (Slc.v s173) = (Slc.v s55)) ∧
                  appendS 1 5 [(Value.int .u8 (0 : Int))] w171 (⟨(some (⟨r170, 0, none⟩ : Addr)), 0, 0⟩ : Slc) (.slc b4) fun s174 w175 =>
                  (∃ s176 : Slc, World.cell? w175 (a56.add 3) = some (Slc.v s176) ∧
                  (Slc.v s176) = (Slc.v s57)) ∧
                  (∃ s177 : Slc, World.cell? w175 (a54.add 2) = some (Slc.v s177) ∧
                  (Slc.v s177) = (Slc.v s55)) ∧
                  newS w175 (.cells ⟨[(Slc.v s174)]⟩ 45) fun r178 w179 =>
                  (∃ s180 : Slc, World.cell? w179 (a56.add 3) = some (Slc.v s180) ∧
                  (Slc.v s180) = (Slc.v s57)) ∧
                  (∃ s181 : Slc, World.cell? w179 (a54.add 2) = some (Slc.v s181) ∧
                  (Slc.v s181) = (Slc.v s55)) ∧
                  appendS 1 45 [(Slc.v (⟨none, 0, 0⟩ : Slc))] w179 s55 (.slc (⟨(some (⟨r178, 0, none⟩ : Addr)), 1, 1⟩ : Slc)) fun s182 w183 =>
                  (∃ s184 : Slc, World.cell? w183 (a56.add 3) = some (Slc.v s184) ∧
                  (Slc.v s184) = (Slc.v s57)) ∧
                  appendS 1 3 [(Value.int .i64 (0 : Int))] w183 s57 (.slc (⟨(some (⟨r166, 0, none⟩ : Addr)), 1, 1⟩ : Slc)) fun s185 w186 =>
                  needSome u1 fun a187 =>
                  canW w186 (a187.add 1) 1 ∧ ∀ w188 : World, w188 = World.setCell w186 (a187.add 1) (Slc.v s63) →
                  needSome u1 fun a189 =>
                  canW w188 (a189.add 2) 1 ∧ ∀ w190 : World, w190 = World.setCell w188 (a189.add 2) (Slc.v s182) →
                  needSome u1 fun a191 =>
                  canW w190 (a191.add 3) 1 ∧ ∀ w192 : World, w192 = World.setCell w190 (a191.add 3) (Slc.v s185) →
                  inR .i64 (at3 + (1 : Int)) ∧
                  needSome u1 fun a193 =>
                  ∃ n194 : Int, World.cell? w192 (a193.add 6) = some (Value.int .i64 n194) ∧
                  BIf (decide (n194 < (at3 + (1 : Int)))) (
                    inR .i64 (at3 + (1 : Int)) ∧
                    needSome u1 fun a195 =>
                    canW w192 (a195.add 6) 1 ∧ ∀ w196 : World, w196 = World.setCell w192 (a195.add 6) (Value.int .i64 (at3 + (1 : Int))) →
                    K (Value.int .i64 (0 : Int)) w196) (
                    K (Value.int .i64 (0 : Int)) w192))) ∧
              (
                newS w59 (.cells ⟨[]⟩ 5) fun r197 w198 =>
                (∃ s199 : Slc, World.cell? w198 (a56.add 3) = some (Slc.v s199) ∧
                (Slc.v s199) = (Slc.v s57)) ∧
                (∃ s200 : Slc, World.cell? w198 (a54.add 2) = some (Slc.v s200) ∧
                (Slc.v s200) = (Slc.v s55)) ∧
                (∃ s201 : Slc, World.cell? w198 (a52.add 1) = some (Slc.v s201) ∧
                (Slc.v s201) = (Slc.v s53)) ∧
                (
                  appendS 1 3 [(Value.int .i64 (0 : Int))] w198 s53 (.slc (⟨(some (⟨r58, 0, none⟩ : Addr)), 1, 1⟩ : Slc)) fun s202 w203 =>
                  (∃ s204 : Slc, World.cell? w203 (a56.add 3) = some (Slc.v s204) ∧
                  (Slc.v s204) = (Slc.v s57)) ∧
                  (∃ s205 : Slc, World.cell? w203 (a54.add 2) = some (Slc.v s205) ∧
                  (Slc.v s205) = (Slc.v s55)) ∧
                  (
                    appendS 1 5 [(Value.int .u8 (0 : Int))] w203 (⟨(some (⟨r197, 0, none⟩ : Addr)), 0, 0⟩ : Slc) (.slc b4) fun s206 w207 =>
                    (∃ s208 : Slc, World.cell? w207 (a56.add 3) = some (Slc.v s208) ∧
                    (Slc.v s208) = (Slc.v s57)) ∧
                    (∃ s209 : Slc, World.cell? w207 (a54.add 2) = some (Slc.v s209) ∧
                    (Slc.v s209) = (Slc.v s55)) ∧
                    (
                      newS w207 (.cells ⟨[(Slc.v s206)]⟩ 45) fun r210 w211 =>
                      (∃ s212 : Slc, World.cell? w211 (a56.add 3) = some (Slc.v s212) ∧
                      (Slc.v s212) = (Slc.v s57)) ∧
                      (∃ s213 : Slc, World.cell? w211 (a54.add 2) = some (Slc.v s213) ∧
                      (Slc.v s213) = (Slc.v s55)) ∧
                      (
                        appendS 1 45 [(Slc.v (⟨none, 0, 0⟩ : Slc))] w211 s55 (.slc (⟨(some (⟨r210, 0, none⟩ : Addr)), 1, 1⟩ : Slc)) fun s214 w215 =>
                        (∃ s216 : Slc, World.cell? w215 (a56.add 3) = some (Slc.v s216) ∧
                        (Slc.v s216) = (Slc.v s57)) ∧
                        newS w215 (.cells ⟨[(Value.int .i64 n50)]⟩ 3) fun r217 w218 =>
                        (∃ s219 : Slc, World.cell? w218 (a56.add 3) = some (Slc.v s219) ∧
                        (Slc.v s219) = (Slc.v s57)) ∧
                        appendS 1 3 [(Value.int .i64 (0 : Int))] w218 s57 (.slc (⟨(some (⟨r217, 0, none⟩ : Addr)), 1, 1⟩ : Slc)) fun s220 w221 =>
                        needSome u1 fun a222 =>
                        canW w221 (a222.add 1) 1 ∧ ∀ w223 : World, w223 = World.setCell w221 (a222.add 1) (Slc.v s202) →
                        needSome u1 fun a224 =>
                        canW w223 (a224.add 2) 1 ∧ ∀ w225 : World, w225 = World.setCell w223 (a224.add 2) (Slc.v s214) →
                        needSome u1 fun a226 =>
                        canW w225 (a226.add 3) 1 ∧ ∀ w227 : World, w227 = World.setCell w225 (a226.add 3) (Slc.v s220) →
                        inR .i64 (at3 + (1 : Int)) ∧
                        needSome u1 fun a228 =>
                        ∃ n229 : Int, World.cell? w227 (a228.add 6) = some (Value.int .i64 n229) ∧
                        BIf (decide (n229 < (at3 + (1 : Int)))) (
                          inR .i64 (at3 + (1 : Int)) ∧
                          needSome u1 fun a230 =>
                          canW w227 (a230.add 6) 1 ∧ ∀ w231 : World, w231 = World.setCell w227 (a230.add 6) (Value.int .i64 (at3 + (1 : Int))) →
                          K (Value.int .i64 (0 : Int)) w231) (
                          K (Value.int .i64 (0 : Int)) w227)) ∧
                      (
                        newS w211 (.cells ⟨[(Value.int .i64 n50)]⟩ 3) fun r232 w233 =>
                        (∃ s234 : Slc, World.cell? w233 (a56.add 3) = some (Slc.v s234) ∧
                        (Slc.v s234) = (Slc.v s57)) ∧
                        (∃ s235 : Slc, World.cell? w233 (a54.add 2) = some (Slc.v s235) ∧
                        (Slc.v s235) = (Slc.v s55)) ∧
                        appendS 1 45 [(Slc.v (⟨none, 0, 0⟩ : Slc))] w233 s55 (.slc (⟨(some (⟨r210, 0, none⟩ : Addr)), 1, 1⟩ : Slc)) fun s236 w237 =>
                        (∃ s238 : Slc, World.cell? w237 (a56.add 3) = some (Slc.v s238) ∧
                        (Slc.v s238) = (Slc.v s57)) ∧
                        appendS 1 3 [(Value.int .i64 (0 : Int))] w237 s57 (.slc (⟨(some (⟨r232, 0, none⟩ : Addr)), 1, 1⟩ : Slc)) fun s239 w240 =>
                        needSome u1 fun a241 =>
                        canW w240 (a241.add 1) 1 ∧ ∀ w242 : World, w242 = World.setCell w240 (a241.add 1) (Slc.v s202) →
                        needSome u1 fun a243 =>
                        canW w242 (a243.add 2) 1 ∧ ∀ w244 : World, w244 = World.setCell w242 (a243.add 2) (Slc.v s236) →
                        needSome u1 fun a245 =>
                        canW w244 (a245.add 3) 1 ∧ ∀ w246 : World, w246 = World.setCell w244 (a245.add 3) (Slc.v s239) →
                        inR .i64 (at3 + (1 : Int)) ∧
                        needSome u1 fun a247 =>
                        ∃ n248 : Int, World.cell? w246 (a247.add 6) = some (Value.int .i64 n248) ∧
                        BIf (decide (n248 < (at3 + (1 : Int)))) (
                          inR .i64 (at3 + (1 : Int)) ∧
                          needSome u1 fun a249 =>
                          canW w246 (a249.add 6) 1 ∧ ∀ w250 : World, w250 = World.setCell w246 (a249.add 6) (Value.int .i64 (at3 + (1 : Int))) →
                          K (Value.int .i64 (0 : Int)) w250) (
                          K (Value.int .i64 (0 : Int)) w246))) ∧
                    (
                      newS w207 (.cells ⟨[(Value.int .i64 n50)]⟩ 3) fun r251 w252 =>
                      (∃ s253 : Slc, World.cell? w252 (a56.add 3) = some (Slc.v s253) ∧
                      (Slc.v s253) = (Slc.v s57)) ∧
                      (∃ s254 : Slc, World.cell? w252 (a54.add 2) = some (Slc.v s254) ∧
                      (Slc.v s254) = (Slc.v s55)) ∧
                      newS w252 (.cells ⟨[(Slc.v s206)]⟩ 45) fun r255 w256 =>
                      (∃ s257 : Slc, World.cell? w256 (a56.add 3) = some (Slc.v s257) ∧
                      (Slc.v s257) = (Slc.v s57)) ∧
                      (∃ s258 : Slc, World.cell? w256 (a54.add 2) = some (Slc.v s258) ∧
                      (Slc.v s258) = (Slc.v s55)) ∧
                      appendS 1 45 [(Slc.v (⟨none, 0, 0⟩ : Slc))] w256 s55 (.slc (⟨(some (⟨r255, 0, none⟩ : Addr)), 1, 1⟩ : Slc)) fun s259 w260 =>
                      (∃ s261 : Slc, World.cell? w260 (a56.add 3) = some (Slc.v s261) ∧
                      (Slc.v s261) = (Slc.v s57)) ∧
                      appendS 1 3 [(Value.int .i64 (0 : Int))] w260 s57 (.slc (⟨(some (⟨r251, 0, none⟩ : Addr)), 1, 1⟩ : Slc)) fun s262 w263 =>
                      needSome u1 fun a264 =>
                      canW w263 (a264.add 1) 1 ∧ ∀ w265 : World, w265 = World.setCell w263 (a264.add 1) (Slc.v s202) →
                      needSome u1 fun a266 =>
                      canW w265 (a266.add 2) 1 ∧ ∀ w267 : World, w267 = World.setCell w265 (a266.add 2) (Slc.v s259) →
                      needSome u1 fun a268 =>
                      canW w267 (a268.add 3) 1 ∧ ∀ w269 : World, w269 = World.setCell w267 (a268.add 3) (Slc.v s262) →
                      inR .i64 (at3 + (1 : Int)) ∧
                      needSome u1 fun a270 =>
                      ∃ n271 : Int, World.cell? w269 (a270.add 6) = some (Value.int .i64 n271) ∧
                      BIf (decide (n271 < (at3 + (1 : Int)))) (
                        inR .i64 (at3 + (1 : Int)) ∧
                        needSome u1 fun a272 =>
                        canW w269 (a272.add 6) 1 ∧ ∀ w273 : World, w273 = World.setCell w269 (a272.add 6) (Value.int .i64 (at3 + (1 : Int))) →
                        K (Value.int .i64 (0 : Int)) w273) (
                        K (Value.int .i64 (0 : Int)) w269))) ∧
                  (
                    newS w203 (.cells ⟨[(Value.int .i64 n50)]⟩ 3) fun r274 w275 =>
                    (∃ s276 : Slc, World.cell? w275 (a56.add 3) = some (Slc.v s276) ∧
                    (Slc.v s276) = (Slc.v s57)) ∧
                    (∃ s277 : Slc, World.cell? w275 (a54.add 2) = some (Slc.v s277) ∧
                    (Slc.v s277) = (Slc.v s55)) ∧
                    appendS 1 5 [(Value.int .u8 (0 : Int))] w275 (⟨(some (⟨r197, 0, none⟩ : Addr)), 0, 0⟩ : Slc) (.slc b4) fun s278 w279 =>
                    (∃ s280 : Slc, World.cell? w279 (a56.add 3) = some (Slc.v s280) ∧
                    (Slc.v s280) = (Slc.v s57)) ∧
                    (∃ s281 : Slc, World.cell? w279 (a54.add 2) = some (Slc.v s281) ∧
                    (Slc.v s281) = (Slc.v s55)) ∧
                    newS w279 (.cells ⟨[(Slc.v s278)]⟩ 45) fun r282 w283 =>
                    (∃ s284 : Slc, World.cell? w283 (a56.add 3) = some (Slc.v s284) ∧
                    (Slc.v s284) = (Slc.v s57)) ∧
                    (∃ s285 : Slc, World.cell? w283 (a54.add 2) = some (Slc.v s285) ∧
                    (Slc.v s285) = (Slc.v s55)) ∧
                    appendS 1 45 [(Slc.v (⟨none, 0, 0⟩ : Slc))] w283 s55 (.slc (⟨(some (⟨r282, 0, none⟩ : Addr)), 1, 1⟩ : Slc)) fun s286 w287 =>
                    (∃ s288 : Slc, World.cell? w287 (a56.add 3) = some (Slc.v s288) ∧
                    (Slc.v s288) = (Slc.v s57)) ∧
                    appendS 1 3 [(Value.int .i64 (0 : Int))] w287 s57 (.slc (⟨(some (⟨r274, 0, none⟩ : Addr)), 1, 1⟩ : Slc)) fun s289 w290 =>
                    needSome u1 fun a291 =>
                    canW w290 (a291.add 1) 1 ∧ ∀ w292 : World, w292 = World.setCell w290 (a291.add 1) (Slc.v s202) →
                    needSome u1 fun a293 =>
                    canW w292 (a293.add 2) 1 ∧ ∀ w294 : World, w294 = World.setCell w292 (a293.add 2) (Slc.v s286) →
                    needSome u1 fun a295 =>
                    canW w294 (a295.add 3) 1 ∧ ∀ w296 : World, w296 = World.setCell w294 (a295.add 3) (Slc.v s289) →
                    inR .i64 (at3 + (1 : Int)) ∧
                    needSome u1 fun a297 =>
                    ∃ n298 : Int, World.cell? w296 (a297.add 6) = some (Value.int .i64 n298) ∧
                    BIf (decide (n298 < (at3 + (1 : Int)))) (
                      inR .i64 (at3 + (1 : Int)) ∧
                      needSome u1 fun a299 =>
                      canW w296 (a299.add 6) 1 ∧ ∀ w300 : World, w300 = World.setCell w296 (a299.add 6) (Value.int .i64 (at3 + (1 : Int))) →
                      K (Value.int .i64 (0 : Int)) w300) (
                      K (Value.int .i64 (0 : Int)) w296))) ∧
                (
                  newS w198 (.cells ⟨[(Value.int .i64 n50)]⟩ 3) fun r301 w302 =>
                  (∃ s303 : Slc, World.cell? w302 (a56.add 3) = some (Slc.v s303) ∧
                  (Slc.v s303) = (Slc.v s57)) ∧
                  (∃ s304 : Slc, World.cell? w302 (a54.add 2) = some (Slc.v s304) ∧
                  (Slc.v s304) = (Slc.v s55)) ∧
                  (∃ s305 : Slc, World.cell? w302 (a52.add 1) = some (Slc.v s305) ∧
                  (Slc.v s305) = (Slc.v s53)) ∧
                  appendS 1 3 [(Value.int .i64 (0 : Int))] w302 s53 (.slc (⟨(some (⟨r58, 0, none⟩ : Addr)), 1, 1⟩ : Slc)) fun s306 w307 =>
                  (∃ s308 : Slc, World.cell? w307 (a56.add 3) = some (Slc.v s308) ∧
                  (Slc.v s308) = (Slc.v s57)) ∧
                  (∃ s309 : Slc, World.cell? w307 (a54.add 2) = some (Slc.v s309) ∧
                  (Slc.v s309) = (Slc.v s55)) ∧
                  appendS 1 5 [(Value.int .u8 (0 : Int))] w307 (⟨(some (⟨r197, 0, none⟩ : Addr)), 0, 0⟩ : Slc) (.slc b4) fun s310 w311 =>
                  (∃ s312 : Slc, World.cell? w311 (a56.add 3) = some (Slc.v s312) ∧
                  (Slc.v s312) = (Slc.v s57)) ∧
                  (∃ s313 : Slc, World.cell? w311 (a54.add 2) = some (Slc.v s313) ∧
                  (Slc.v s313) = (Slc.v s55)) ∧
                  newS w311 (.cells ⟨[(Slc.v s310)]⟩ 45) fun r314 w315 =>
                  (∃ s316 : Slc, World.cell? w315 (a56.add 3) = some (Slc.v s316) ∧
                  (Slc.v s316) = (Slc.v s57)) ∧
                  (∃ s317 : Slc, World.cell? w315 (a54.add 2) = some (Slc.v s317) ∧
                  (Slc.v s317) = (Slc.v s55)) ∧
                  appendS 1 45 [(Slc.v (⟨none, 0, 0⟩ : Slc))] w315 s55 (.slc (⟨(some (⟨r314, 0, none⟩ : Addr)), 1, 1⟩ : Slc)) fun s318 w319 =>
                  (∃ s320 : Slc, World.cell? w319 (a56.add 3) = some (Slc.v s320) ∧
                  (Slc.v s320) = (Slc.v s57)) ∧
                  appendS 1 3 [(Value.int .i64 (0 : Int))] w319 s57 (.slc (⟨(some (⟨r301, 0, none⟩ : Addr)), 1, 1⟩ : Slc)) fun s321 w322 =>
                  needSome u1 fun a323 =>
                  canW w322 (a323.add 1) 1 ∧ ∀ w324 : World, w324 = World.setCell w322 (a323.add 1) (Slc.v s306) →
                  needSome u1 fun a325 =>
                  canW w324 (a325.add 2) 1 ∧ ∀ w326 : World, w326 = World.setCell w324 (a325.add 2) (Slc.v s318) →
                  needSome u1 fun a327 =>
                  canW w326 (a327.add 3) 1 ∧ ∀ w328 : World, w328 = World.setCell w326 (a327.add 3) (Slc.v s321) →
                  inR .i64 (at3 + (1 : Int)) ∧
                  needSome u1 fun a329 =>
                  ∃ n330 : Int, World.cell? w328 (a329.add 6) = some (Value.int .i64 n330) ∧
                  BIf (decide (n330 < (at3 + (1 : Int)))) (
                    inR .i64 (at3 + (1 : Int)) ∧
                    needSome u1 fun a331 =>
                    canW w328 (a331.add 6) 1 ∧ ∀ w332 : World, w332 = World.setCell w328 (a331.add 6) (Value.int .i64 (at3 + (1 : Int))) →
                    K (Value.int .i64 (0 : Int)) w332) (
                    K (Value.int .i64 (0 : Int)) w328))) ∧
              (
                newS w59 (.cells ⟨[(Value.int .i64 n50)]⟩ 3) fun r333 w334 =>
                (∃ s335 : Slc, World.cell? w334 (a56.add 3) = some (Slc.v s335) ∧
                (Slc.v s335) = (Slc.v s57)) ∧
                (∃ s336 : Slc, World.cell? w334 (a54.add 2) = some (Slc.v s336) ∧
                (Slc.v s336) = (Slc.v s55)) ∧
                (∃ s337 : Slc, World.cell? w334 (a52.add 1) = some (Slc.v s337) ∧
                (Slc.v s337) = (Slc.v s53)) ∧
                (
                  appendS 1 3 [(Value.int .i64 (0 : Int))] w334 s53 (.slc (⟨(some (⟨r58, 0, none⟩ : Addr)), 1, 1⟩ : Slc)) fun s338 w339 =>
                  (∃ s340 : Slc, World.cell? w339 (a56.add 3) = some (Slc.v s340) ∧
                  (Slc.v s340) = (Slc.v s57)) ∧
                  (∃ s341 : Slc, World.cell? w339 (a54.add 2) = some (Slc.v s341) ∧
                  (Slc.v s341) = (Slc.v s55)) ∧
                  newS w339 (.cells ⟨[]⟩ 5) fun r342 w343 =>
                  (∃ s344 : Slc, World.cell? w343 (a56.add 3) = some (Slc.v s344) ∧
                  (Slc.v s344) = (Slc.v s57)) ∧
                  (∃ s345 : Slc, World.cell? w343 (a54.add 2) = some (Slc.v s345) ∧
                  (Slc.v s345) = (Slc.v s55)) ∧
                  appendS 1 5 [(Value.int .u8 (0 : Int))] w343 (⟨(some (⟨r342, 0, none⟩ : Addr)), 0, 0⟩ : Slc) (.slc b4) fun s346 w347 =>
                  (∃ s348 : Slc, World.cell? w347 (a56.add 3) = some (Slc.v s348) ∧
                  (Slc.v s348) = (Slc.v s57)) ∧
                  (∃ s349 : Slc, World.cell? w347 (a54.add 2) = some (Slc.v s349) ∧
                  (Slc.v s349) = (Slc.v s55)) ∧
                  newS w347 (.cells ⟨[(Slc.v s346)]⟩ 45) fun r350 w351 =>
                  (∃ s352 : Slc, World.cell? w351 (a56.add 3) = some (Slc.v s352) ∧
                  (Slc.v s352) = (Slc.v s57)) ∧
                  (∃ s353 : Slc, World.cell? w351 (a54.add 2) = some (Slc.v s353) ∧
                  (Slc.v s353) = (Slc.v s55)) ∧
                  appendS 1 45 [(Slc.v (⟨none, 0, 0⟩ : Slc))] w351 s55 (.slc (⟨(some (⟨r350, 0, none⟩ : Addr)), 1, 1⟩ : Slc)) fun s354 w355 =>
                  (∃ s356 : Slc, World.cell? w355 (a56.add 3) = some (Slc.v s356) ∧
                  (Slc.v s356) = (Slc.v s57)) ∧
                  appendS 1 3 [(Value.int .i64 (0 : Int))] w355 s57 (.slc (⟨(some (⟨r333, 0, none⟩ : Addr)), 1, 1⟩ : Slc)) fun s357 w358 =>
                  needSome u1 fun a359 =>
                  canW w358 (a359.add 1) 1 ∧ ∀ w360 : World, w360 = World.setCell w358 (a359.add 1) (Slc.v s338) →
                  needSome u1 fun a361 =>
                  canW w360 (a361.add 2) 1 ∧ ∀ w362 : World, w362 = World.setCell w360 (a361.add 2) (Slc.v s354) →
                  needSome u1 fun a363 =>
                  canW w362 (a363.add 3) 1 ∧ ∀ w364 : World, w364 = World.setCell w362 (a363.add 3) (Slc.v s357) →
                  inR .i64 (at3 + (1 : Int)) ∧
                  needSome u1 fun a365 =>
                  ∃ n366 : Int, World.cell? w364 (a365.add 6) = some (Value.int .i64 n366) ∧
                  BIf (decide (n366 < (at3 + (1 : Int)))) (
                    inR .i64 (at3 + (1 : Int)) ∧
                    needSome u1 fun a367 =>
                    canW w364 (a367.add 6) 1 ∧ ∀ w368 : World, w368 = World.setCell w364 (a367.add 6) (Value.int .i64 (at3 + (1 : Int))) →
                    K (Value.int .i64 (0 : Int)) w368) (
                    K (Value.int .i64 (0 : Int)) w364)) ∧
                (
                  newS w334 (.cells ⟨[]⟩ 5) fun r369 w370 =>
                  (∃ s371 : Slc, World.cell? w370 (a56.add 3) = some (Slc.v s371) ∧
                  (Slc.v s371) = (Slc.v s57)) ∧
                  (∃ s372 : Slc, World.cell? w370 (a54.add 2) = some (Slc.v s372) ∧
                  (Slc.v s372) = (Slc.v s55)) ∧
                  (∃ s373 : Slc, World.cell? w370 (a52.add 1) = some (Slc.v s373) ∧
                  (Slc.v s373) = (Slc.v s53)) ∧
                  appendS 1 3 [(Value.int .i64 (0 : Int))] w370 s53 (.slc (⟨(some (⟨r58, 0, none⟩ : Addr)), 1, 1⟩ : Slc)) fun s374 w375 =>
                  (∃ s376 : Slc, World.cell? w375 (a56.add 3) = some (Slc.v s376) ∧
                  (Slc.v s376) = (Slc.v s57)) ∧
                  (∃ s377 : Slc, World.cell? w375 (a54.add 2) = some (Slc.v s377) ∧
                  (Slc.v s377) = (Slc.v s55)) ∧
                  appendS 1 5 [(Value.int .u8 (0 : Int))] w375 (⟨(some (⟨r369, 0, none⟩ : Addr)), 0, 0⟩ : Slc) (.slc b4) fun s378 w379 =>
                  (∃ s380 : Slc, World.cell? w379 (a56.add 3) = some (Slc.v s380) ∧
                  (Slc.v s380) = (Slc.v s57)) ∧
                  (∃ s381 : Slc, World.cell? w379 (a54.add 2) = some (Slc.v s381) ∧
                  (Slc.v s381) = (Slc.v s55)) ∧
                  newS w379 (.cells ⟨[(Slc.v s378)]⟩ 45) fun r382 w383 =>
                  (∃ s384 : Slc, World.cell? w383 (a56.add 3) = some (Slc.v s384) ∧
                  (Slc.v s384) = (Slc.v s57)) ∧
                  (∃ s385 : Slc, World.cell? w383 (a54.add 2) = some (Slc.v s385) ∧
                  (Slc.v s385) = (Slc.v s55)) ∧
                  appendS 1 45 [(Slc.v (⟨none, 0, 0⟩ : Slc))] w383 s55 (.slc (⟨(some (⟨r382, 0, none⟩ : Addr)), 1, 1⟩ : Slc)) fun s386 w387 =>
                  (∃ s388 : Slc, World.cell? w387 (a56.add 3) = some (Slc.v s388) ∧
                  (Slc.v s388) = (Slc.v s57)) ∧
                  appendS 1 3 [(Value.int .i64 (0 : Int))] w387 s57 (.slc (⟨(some (⟨r333, 0, none⟩ : Addr)), 1, 1⟩ : Slc)) fun s389 w390 =>
                  needSome u1 fun a391 =>
                  canW w390 (a391.add 1) 1 ∧ ∀ w392 : World, w392 = World.setCell w390 (a391.add 1) (Slc.v s374) →
                  needSome u1 fun a393 =>
                  canW w392 (a393.add 2) 1 ∧ ∀ w394 : World, w394 = World.setCell w392 (a393.add 2) (Slc.v s386) →
                  needSome u1 fun a395 =>
                  canW w394 (a395.add 3) 1 ∧ ∀ w396 : World, w396 = World.setCell w394 (a395.add 3) (Slc.v s389) →
                  inR .i64 (at3 + (1 : Int)) ∧
                  needSome u1 fun a397 =>
                  ∃ n398 : Int, World.cell? w396 (a397.add 6) = some (Value.int .i64 n398) ∧
                  BIf (decide (n398 < (at3 + (1 : Int)))) (
                    inR .i64 (at3 + (1 : Int)) ∧
                    needSome u1 fun a399 =>
                    canW w396 (a399.add 6) 1 ∧ ∀ w400 : World, w400 = World.setCell w396 (a399.add 6) (Value.int .i64 (at3 + (1 : Int))) →
                    K (Value.int .i64 (0 : Int)) w400) (
                    K (Value.int .i64 (0 : Int)) w396)))) ∧
            (
              newS (World.drew w49) (.cells ⟨[]⟩ 5) fun r401 w402 =>
              (∃ s403 : Slc, World.cell? w402 (a56.add 3) = some (Slc.v s403) ∧
              (Slc.v s403) = (Slc.v s57)) ∧
              (∃ s404 : Slc, World.cell? w402 (a54.add 2) = some (Slc.v s404) ∧
              (Slc.v s404) = (Slc.v s55)) ∧
              (∃ s405 : Slc, World.cell? w402 (a52.add 1) = some (Slc.v s405) ∧
              (Slc.v s405) = (Slc.v s53)) ∧
              (
                newS w402 (.cells ⟨[(Value.int .i64 at3)]⟩ 3) fun r406 w407 =>
                (∃ s408 : Slc, World.cell? w407 (a56.add 3) = some (Slc.v s408) ∧
                (Slc.v s408) = (Slc.v s57)) ∧
                (∃ s409 : Slc, World.cell? w407 (a54.add 2) = some (Slc.v s409) ∧
                (Slc.v s409) = (Slc.v s55)) ∧
                (∃ s410 : Slc, World.cell? w407 (a52.add 1) = some (Slc.v s410) ∧
                (Slc.v s410) = (Slc.v s53)) ∧
                (
                  appendS 1 3 [(Value.int .i64 (0 : Int))] w407 s53 (.slc (⟨(some (⟨r406, 0, none⟩ : Addr)), 1, 1⟩ : Slc)) fun s411 w412 =>
                  (∃ s413 : Slc, World.cell? w412 (a56.add 3) = some (Slc.v s413) ∧
                  (Slc.v s413) = (Slc.v s57)) ∧
                  (∃ s414 : Slc, World.cell? w412 (a54.add 2) = some (Slc.v s414) ∧
                  (Slc.v s414) = (Slc.v s55)) ∧
                  (
                    appendS 1 5 [(Value.int .u8 (0 : Int))] w412 (⟨(some (⟨r401, 0, none⟩ : Addr)), 0, 0⟩ : Slc) (.slc b4) fun s415 w416 =>
                    (∃ s417 : Slc, World.cell? w416 (a56.add 3) = some (Slc.v s417) ∧
                    (Slc.v s417) = (Slc.v s57)) ∧
                    (∃ s418 : Slc, World.cell? w416 (a54.add 2) = some (Slc.v s418) ∧
                    (Slc.v s418) = (Slc.v s55)) ∧
                    (
                      newS w416 (.cells ⟨[(Slc.v s415)]⟩ 45) fun r419 w420 =>
                      (∃ s421 : Slc, World.cell? w420 (a56.add 3) = some (Slc.v s421) ∧
                      (Slc.v s421) = (Slc.v s57)) ∧
                      (∃ s422 : Slc, World.cell? w420 (a54.add 2) = some (Slc.v s422) ∧
                      (Slc.v s422) = (Slc.v s55)) ∧
                      (
                        appendS 1 45 [(Slc.v (⟨none, 0, 0⟩ : Slc))] w420 s55 (.slc (⟨(some (⟨r419, 0, none⟩ : Addr)), 1, 1⟩ : Slc)) fun s423 w424 =>
                        (∃ s425 : Slc, World.cell? w424 (a56.add 3) = some (Slc.v s425) ∧
                        (Slc.v s425) = (Slc.v s57)) ∧
                        newS w424 (.cells ⟨[(Value.int .i64 n50)]⟩ 3) fun r426 w427 =>
                        (∃ s428 : Slc, World.cell? w427 (a56.add 3) = some (Slc.v s428) ∧
                        (Slc.v s428) = (Slc.v s57)) ∧
                        appendS 1 3 [(Value.int .i64 (0 : Int))] w427 s57 (.slc (⟨(some (⟨r426, 0, none⟩ : Addr)), 1, 1⟩ : Slc)) fun s429 w430 =>
                        needSome u1 fun a431 =>
                        canW w430 (a431.add 1) 1 ∧ ∀ w432 : World, w432 = World.setCell w430 (a431.add 1) (Slc.v s411) →
                        needSome u1 fun a433 =>
                        canW w432 (a433.add 2) 1 ∧ ∀ w434 : World, w434 = World.setCell w432 (a433.add 2) (Slc.v s423) →
                        needSome u1 fun a435 =>
                        canW w434 (a435.add 3) 1 ∧ ∀ w436 : World, w436 = World.setCell w434 (a435.add 3) (Slc.v s429) →
                        inR .i64 (at3 + (1 : Int)) ∧
                        needSome u1 fun a437 =>
                        ∃ n438 : Int, World.cell? w436 (a437.add 6) = some (Value.int .i64 n438) ∧
                        BIf (decide (n438 < (at3 + (1 : Int)))) (
                          inR .i64 (at3 + (1 : Int)) ∧
                          needSome u1 fun a439 =>
                          canW w436 (a439.add 6) 1 ∧ ∀ w440 : World, w440 = World.setCell w436 (a439.add 6) (Value.int .i64 (at3 + (1 : Int))) →
                          K (Value.int .i64 (0 : Int)) w440) (
                          K (Value.int .i64 (0 : Int)) w436)) ∧
                      (
                        newS w420 (.cells ⟨[(Value.int .i64 n50)]⟩ 3) fun r441 w442 =>
                        (∃ s443 : Slc, World.cell? w442 (a56.add 3) = some (Slc.v s443) ∧
                        (Slc.v s443) = (Slc.v s57)) ∧
                        (∃ s444 : Slc, World.cell? w442 (a54.add 2) = some (Slc.v s444) ∧
                        (Slc.v s444) = (Slc.v s55)) ∧
                        appendS 1 45 [(Slc.v (⟨none, 0, 0⟩ : Slc))] w442 s55 (.slc (⟨(some (⟨r419, 0, none⟩ : Addr)), 1, 1⟩ : Slc)) fun s445 w446 =>
                        (∃ s447 : Slc, World.cell? w446 (a56.add 3) = some (Slc.v s447) ∧
                        (Slc.v s447) = (Slc.v s57)) ∧
                        appendS 1 3 [(Value.int .i64 (0 : Int))] w446 s57 (.slc (⟨(some (⟨r441, 0, none⟩ : Addr)), 1, 1⟩ : Slc)) fun s448 w449 =>
                        needSome u1 fun a450 =>
                        canW w449 (a450.add 1) 1 ∧ ∀ w451 : World, w451 = World.setCell w449 (a450.add 1) (Slc.v s411) →
                        needSome u1 fun a452 =>
                        canW w451 (a452.add 2) 1 ∧ ∀ w453 : World, w453 = World.setCell w451 (a452.add 2) (Slc.v s445) →
                        needSome u1 fun a454 =>
                        canW w453 (a454.add 3) 1 ∧ ∀ w455 : World, w455 = World.setCell w453 (a454.add 3) (Slc.v s448) →
                        inR .i64 (at3 + (1 : Int)) ∧
                        needSome u1 fun a456 =>
                        ∃ n457 : Int, World.cell? w455 (a456.add 6) = some (Value.int .i64 n457) ∧
                        BIf (decide (n457 < (at3 + (1 : Int)))) (
                          inR .i64 (at3 + (1 : Int)) ∧
                          needSome u1 fun a458 =>
                          canW w455 (a458.add 6) 1 ∧ ∀ w459 : World, w459 = World.setCell w455 (a458.add 6) (Value.int .i64 (at3 + (1 : Int))) →
                          K (Value.int .i64 (0 : Int)) w459) (
                          K (Value.int .i64 (0 : Int)) w455))) ∧
                    (
                      newS w416 (.cells ⟨[(Value.int .i64 n50)]⟩ 3) fun r460 w461 =>
                      (∃ s462 : Slc, World.cell? w461 (a56.add 3) = some (Slc.v s462) ∧
                      (Slc.v s462) = (Slc.v s57)) ∧
                      (∃ s463 : Slc, World.cell? w461 (a54.add 2) = some (Slc.v s463) ∧
                      (Slc.v s463) = (Slc.v s55)) ∧
                      newS w461 (.cells ⟨[(Slc.v s415)]⟩ 45) fun r464 w465 =>
                      (∃ s466 : Slc, World.cell? w465 (a56.add 3) = some (Slc.v s466) ∧
                      (Slc.v s466) = (Slc.v s57)) ∧
                      (∃ s467 : Slc, World.cell? w465 (a54.add 2) = some (Slc.v s467) ∧
                      (Slc.v s467) = (Slc.v s55)) ∧
                      appendS 1 45 [(Slc.v (⟨none, 0, 0⟩ : Slc))] w465 s55 (.slc (⟨(some (⟨r464, 0, none⟩ : Addr)), 1, 1⟩ : Slc)) fun s468 w469 =>
                      (∃ s470 : Slc, World.cell? w469 (a56.add 3) = some (Slc.v s470) ∧
                      (Slc.v s470) = (Slc.v s57)) ∧
                      appendS 1 3 [(Value.int .i64 (0 : Int))] w469 s57 (.slc (⟨(some (⟨r460, 0, none⟩ : Addr)), 1, 1⟩ : Slc)) fun s471 w472 =>
                      needSome u1 fun a473 =>
                      canW w472 (a473.add 1) 1 ∧ ∀ w474 : World, w474 = World.setCell w472 (a473.add 1) (Slc.v s411) →
                      needSome u1 fun a475 =>
                      canW w474 (a475.add 2) 1 ∧ ∀ w476 : World, w476 = World.setCell w474 (a475.add 2) (Slc.v s468) →
                      needSome u1 fun a477 =>
                      canW w476 (a477.add 3) 1 ∧ ∀ w478 : World, w478 = World.setCell w476 (a477.add 3) (Slc.v s471) →
                      inR .i64 (at3 + (1 : Int)) ∧
                      needSome u1 fun a479 =>
                      ∃ n480 : Int, World.cell? w478 (a479.add 6) = some (Value.int .i64 n480) ∧
                      BIf (decide (n480 < (at3 + (1 : Int)))) (
                        inR .i64 (at3 + (1 : Int)) ∧
                        needSome u1 fun a481 =>
                        canW w478 (a481.add 6) 1 ∧ ∀ w482 : World, w482 = World.setCell w478 (a481.add 6) (Value.int .i64 (at3 + (1 : Int))) →
                        K (Value.int .i64 (0 : Int)) w482) (
                        K (Value.int .i64 (0 : Int)) w478))) ∧
                  (
                    newS w412 (.cells ⟨[(Value.int .i64 n50)]⟩ 3) fun r483 w484 =>
                    (∃ s485 : Slc, World.cell? w484 (a56.add 3) = some (Slc.v s485) ∧
                    (Slc.v s485) = (Slc.v s57)) ∧
                    (∃ s486 : Slc, World.cell? w484 (a54.add 2) = some (Slc.v s486) ∧
                    (Slc.v s486) = (Slc.v s55)) ∧
                    appendS 1 5 [(Value.int .u8 (0 : Int))] w484 (⟨(some (⟨r401, 0, none⟩ : Addr)), 0, 0⟩ : Slc) (.slc b4) fun s487 w488 =>
                    (∃ s489 : Slc, World.cell? w488 (a56.add 3) = some (Slc.v s489) ∧
                    (Slc.v s489) = (Slc.v s57)) ∧
                    (∃ s490 : Slc, World.cell? w488 (a54.add 2) = some (Slc.v s490) ∧
                    (Slc.v s490) = (Slc.v s55)) ∧
                    newS w488 (.cells ⟨[(Slc.v s487)]⟩ 45) fun r491 w492 =>
                    (∃ s493 : Slc, World.cell? w492 (a56.add 3) = some (Slc.v s493) ∧
                    (Slc.v s493) = (Slc.v s57)) ∧
                    (∃ s494 : Slc, World.cell? w492 (a54.add 2) = some (Slc.v s494) ∧
                    (Slc.v s494) = (Slc.v s55)) ∧
                    appendS 1 45 [(Slc.v (⟨none, 0, 0⟩ : Slc))] w492 s55 (.slc (⟨(some (⟨r491, 0, none⟩ : Addr)), 1, 1⟩ : Slc)) fun s495 w496 =>
                    (∃ s497 : Slc, World.cell? w496 (a56.add 3) = some (Slc.v s497) ∧
                    (Slc.v s497) = (Slc.v s57)) ∧
                    appendS 1 3 [(Value.int .i64 (0 : Int))] w496 s57 (.slc (⟨(some (⟨r483, 0, none⟩ : Addr)), 1, 1⟩ : Slc)) fun s498 w499 =>
                    needSome u1 fun a500 =>
                    canW w499 (a500.add 1) 1 ∧ ∀ w501 : World, w501 = World.setCell w499 (a500.add 1) (Slc.v s411) →
                    needSome u1 fun a502 =>
                    canW w501 (a502.add 2) 1 ∧ ∀ w503 : World, w503 = World.setCell w501 (a502.add 2) (Slc.v s495) →
                    needSome u1 fun a504 =>
                    canW w503 (a504.add 3) 1 ∧ ∀ w505 : World, w505 = World.setCell w503 (a504.add 3) (Slc.v s498) →
                    inR .i64 (at3 + (1 : Int)) ∧
                    needSome u1 fun a506 =>
                    ∃ n507 : Int, World.cell? w505 (a506.add 6) = some (Value.int .i64 n507) ∧
                    BIf (decide (n507 < (at3 + (1 : Int)))) (
                      inR .i64 (at3 + (1 : Int)) ∧
                      needSome u1 fun a508 =>
                      canW w505 (a508.add 6) 1 ∧ ∀ w509 : World, w509 = World.setCell w505 (a508.add 6) (Value.int .i64 (at3 + (1 : Int))) →
                      K (Value.int .i64 (0 : Int)) w509) (
                      K (Value.int .i64 (0 : Int)) w505))) ∧
                (
                  newS w407 (.cells ⟨[(Value.int .i64 n50)]⟩ 3) fun r510 w511 =>
                  (∃ s512 : Slc, World.cell? w511 (a56.add 3) = some (Slc.v s512) ∧
                  (Slc.v s512) = (Slc.v s57)) ∧
                  (∃ s513 : Slc, World.cell? w511 (a54.add 2) = some (Slc.v s513) ∧
                  (Slc.v s513) = (Slc.v s55)) ∧
                  (∃ s514 : Slc, World.cell? w511 (a52.add 1) = some (Slc.v s514) ∧
                  (Slc.v s514) = (Slc.v s53)) ∧
                  appendS 1 3 [(Value.int .i64 (0 : Int))] w511 s53 (.slc (⟨(some (⟨r406, 0, none⟩ : Addr)), 1, 1⟩ : Slc)) fun s515 w516 =>
                  (∃ s517 : Slc, World.cell? w516 (a56.add 3) = some (Slc.v s517) ∧
                  (Slc.v s517) = (Slc.v s57)) ∧
                  (∃ s518 : Slc, World.cell? w516 (a54.add 2) = some (Slc.v s518) ∧
                  (Slc.v s518) = (Slc.v s55)) ∧
                  appendS 1 5 [(Value.int .u8 (0 : Int))] w516 (⟨(some (⟨r401, 0, none⟩ : Addr)), 0, 0⟩ : Slc) (.slc b4) fun s519 w520 =>
                  (∃ s521 : Slc, World.cell? w520 (a56.add 3) = some (Slc.v s521) ∧
                  (Slc.v s521) = (Slc.v s57)) ∧
                  (∃ s522 : Slc, World.cell? w520 (a54.add 2) = some (Slc.v s522) ∧
                  (Slc.v s522) = (Slc.v s55)) ∧
                  newS w520 (.cells ⟨[(Slc.v s519)]⟩ 45) fun r523 w524 =>
                  (∃ s525 : Slc, World.cell? w524 (a56.add 3) = some (Slc.v s525) ∧
                  (Slc.v s525) = (Slc.v s57)) ∧
                  (∃ s526 : Slc, World.cell? w524 (a54.add 2) = some (Slc.v s526) ∧
                  (Slc.v s526) = (Slc.v s55)) ∧
                  appendS 1 45 [(Slc.v (⟨none, 0, 0⟩ : Slc))] w524 s55 (.slc (⟨(some (⟨r523, 0, none⟩ : Addr)), 1, 1⟩ : Slc)) fun s527 w528 =>
                  (∃ s529 : Slc, World.cell? w528 (a56.add 3) = some (Slc.v s529) ∧
                  (Slc.v s529) = (Slc.v s57)) ∧
                  appendS 1 3 [(Value.int .i64 (0 : Int))] w528 s57 (.slc (⟨(some (⟨r510, 0, none⟩ : Addr)), 1, 1⟩ : Slc)) fun s530 w531 =>
                  needSome u1 fun a532 =>
                  canW w531 (a532.add 1) 1 ∧ ∀ w533 : World, w533 = World.setCell w531 (a532.add 1) (Slc.v s515) →
                  needSome u1 fun a534 =>
                  canW w533 (a534.add 2) 1 ∧ ∀ w535 : World, w535 = World.setCell w533 (a534.add 2) (Slc.v s527) →
                  needSome u1 fun a536 =>
                  canW w535 (a536.add 3) 1 ∧ ∀ w537 : World, w537 = World.setCell w535 (a536.add 3) (Slc.v s530) →
                  inR .i64 (at3 + (1 : Int)) ∧
                  needSome u1 fun a538 =>
                  ∃ n539 : Int, World.cell? w537 (a538.add 6) = some (Value.int .i64 n539) ∧
                  BIf (decide (n539 < (at3 + (1 : Int)))) (
                    inR .i64 (at3 + (1 : Int)) ∧
                    needSome u1 fun a540 =>
                    canW w537 (a540.add 6) 1 ∧ ∀ w541 : World, w541 = World.setCell w537 (a540.add 6) (Value.int .i64 (at3 + (1 : Int))) →
                    K (Value.int .i64 (0 : Int)) w541) (
                    K (Value.int .i64 (0 : Int)) w537))) ∧
              (
                newS w402 (.cells ⟨[(Value.int .i64 n50)]⟩ 3) fun r542 w543 =>
                (∃ s544 : Slc, World.cell? w543 (a56.add 3) = some (Slc.v s544) ∧
                (Slc.v s544) = (Slc.v s57)) ∧
                (∃ s545 : Slc, World.cell? w543 (a54.add 2) = some (Slc.v s545) ∧
                (Slc.v s545) = (Slc.v s55)) ∧
                (∃ s546 : Slc, World.cell? w543 (a52.add 1) = some (Slc.v s546) ∧
                (Slc.v s546) = (Slc.v s53)) ∧
                newS w543 (.cells ⟨[(Value.int .i64 at3)]⟩ 3) fun r547 w548 =>
                (∃ s549 : Slc, World.cell? w548 (a56.add 3) = some (Slc.v s549) ∧
                (Slc.v s549) = (Slc.v s57)) ∧
                (∃ s550 : Slc, World.cell? w548 (a54.add 2) = some (Slc.v s550) ∧
                (Slc.v s550) = (Slc.v s55)) ∧
                (∃ s551 : Slc, World.cell? w548 (a52.add 1) = some (Slc.v s551) ∧
                (Slc.v s551) = (Slc.v s53)) ∧
                appendS 1 3 [(Value.int .i64 (0 : Int))] w548 s53 (.slc (⟨(some (⟨r547, 0, none⟩ : Addr)), 1, 1⟩ : Slc)) fun s552 w553 =>
                (∃ s554 : Slc, World.cell? w553 (a56.add 3) = some (Slc.v s554) ∧
                (Slc.v s554) = (Slc.v s57)) ∧
                (∃ s555 : Slc, World.cell? w553 (a54.add 2) = some (Slc.v s555) ∧
                (Slc.v s555) = (Slc.v s55)) ∧
                appendS 1 5 [(Value.int .u8 (0 : Int))] w553 (⟨(some (⟨r401, 0, none⟩ : Addr)), 0, 0⟩ : Slc) (.slc b4) fun s556 w557 =>
                (∃ s558 : Slc, World.cell? w557 (a56.add 3) = some (Slc.v s558) ∧
                (Slc.v s558) = (Slc.v s57)) ∧
                (∃ s559 : Slc, World.cell? w557 (a54.add 2) = some (Slc.v s559) ∧
                (Slc.v s559) = (Slc.v s55)) ∧
                newS w557 (.cells ⟨[(Slc.v s556)]⟩ 45) fun r560 w561 =>
                (∃ s562 : Slc, World.cell? w561 (a56.add 3) = some (Slc.v s562) ∧
                (Slc.v s562) = (Slc.v s57)) ∧
                (∃ s563 : Slc, World.cell? w561 (a54.add 2) = some (Slc.v s563) ∧
                (Slc.v s563) = (Slc.v s55)) ∧
                appendS 1 45 [(Slc.v (⟨none, 0, 0⟩ : Slc))] w561 s55 (.slc (⟨(some (⟨r560, 0, none⟩ : Addr)), 1, 1⟩ : Slc)) fun s564 w565 =>
                (∃ s566 : Slc, World.cell? w565 (a56.add 3) = some (Slc.v s566) ∧
                (Slc.v s566) = (Slc.v s57)) ∧
                appendS 1 3 [(Value.int .i64 (0 : Int))] w565 s57 (.slc (⟨(some (⟨r542, 0, none⟩ : Addr)), 1, 1⟩ : Slc)) fun s567 w568 =>
                needSome u1 fun a569 =>
                canW w568 (a569.add 1) 1 ∧ ∀ w570 : World, w570 = World.setCell w568 (a569.add 1) (Slc.v s552) →
                needSome u1 fun a571 =>
                canW w570 (a571.add 2) 1 ∧ ∀ w572 : World, w572 = World.setCell w570 (a571.add 2) (Slc.v s564) →
                needSome u1 fun a573 =>
                canW w572 (a573.add 3) 1 ∧ ∀ w574 : World, w574 = World.setCell w572 (a573.add 3) (Slc.v s567) →
                inR .i64 (at3 + (1 : Int)) ∧
                needSome u1 fun a575 =>
                ∃ n576 : Int, World.cell? w574 (a575.add 6) = some (Value.int .i64 n576) ∧
                BIf (decide (n576 < (at3 + (1 : Int)))) (
                  inR .i64 (at3 + (1 : Int)) ∧
                  needSome u1 fun a577 =>
                  canW w574 (a577.add 6) 1 ∧ ∀ w578 : World, w578 = World.setCell w574 (a577.add 6) (Value.int .i64 (at3 + (1 : Int))) →
                  K (Value.int .i64 (0 : Int)) w578) (
                  K (Value.int .i64 (0 : Int)) w574))) ∧
            (
              newS (World.drew w49) (.cells ⟨[(Value.int .i64 n50)]⟩ 3) fun r579 w580 =>
              (∃ s581 : Slc, World.cell? w580 (a56.add 3) = some (Slc.v s581) ∧
              (Slc.v s581) = (Slc.v s57)) ∧
              (∃ s582 : Slc, World.cell? w580 (a54.add 2) = some (Slc.v s582) ∧
              (Slc.v s582) = (Slc.v s55)) ∧
              (∃ s583 : Slc, World.cell? w580 (a52.add 1) = some (Slc.v s583) ∧
              (Slc.v s583) = (Slc.v s53)) ∧
              (
                newS w580 (.cells ⟨[(Value.int .i64 at3)]⟩ 3) fun r584 w585 =>
                (∃ s586 : Slc, World.cell? w585 (a56.add 3) = some (Slc.v s586) ∧
                (Slc.v s586) = (Slc.v s57)) ∧
                (∃ s587 : Slc, World.cell? w585 (a54.add 2) = some (Slc.v s587) ∧
                (Slc.v s587) = (Slc.v s55)) ∧
                (∃ s588 : Slc, World.cell? w585 (a52.add 1) = some (Slc.v s588) ∧
                (Slc.v s588) = (Slc.v s53)) ∧
                (
                  appendS 1 3 [(Value.int .i64 (0 : Int))] w585 s53 (.slc (⟨(some (⟨r584, 0, none⟩ : Addr)), 1, 1⟩ : Slc)) fun s589 w590 =>
                  (∃ s591 : Slc, World.cell? w590 (a56.add 3) = some (Slc.v s591) ∧
                  (Slc.v s591) = (Slc.v s57)) ∧
                  (∃ s592 : Slc, World.cell? w590 (a54.add 2) = some (Slc.v s592) ∧
                  (Slc.v s592) = (Slc.v s55)) ∧
                  newS w590 (.cells ⟨[]⟩ 5) fun r593 w594 =>
                  (∃ s595 : Slc, World.cell? w594 (a56.add 3) = some (Slc.v s595) ∧
                  (Slc.v s595) = (Slc.v s57)) ∧
                  (∃ s596 : Slc, World.cell? w594 (a54.add 2) = some (Slc.v s596) ∧
                  (Slc.v s596) = (Slc.v s55)) ∧
                  appendS 1 5 [(Value.int .u8 (0 : Int))] w594 (⟨(some (⟨r593, 0, none⟩ : Addr)), 0, 0⟩ : Slc) (.slc b4) fun s597 w598 =>
                  (∃ s599 : Slc, World.cell? w598 (a56.add 3) = some (Slc.v s599) ∧
                  (Slc.v s599) = (Slc.v s57)) ∧
                  (∃ s600 : Slc, World.cell? w598 (a54.add 2) = some (Slc.v s600) ∧
                  (Slc.v s600) = (Slc.v s55)) ∧
                  newS w598 (.cells ⟨[(Slc.v s597)]⟩ 45) fun r601 w602 =>
                  (∃ s603 : Slc, World.cell? w602 (a56.add 3) = some (Slc.v s603) ∧
                  (Slc.v s603) = (Slc.v s57)) ∧
                  (∃ s604 : Slc, World.cell? w602 (a54.add 2) = some (Slc.v s604) ∧
                  (Slc.v s604) = (Slc.v s55)) ∧
                  appendS 1 45 [(Slc.v (⟨none, 0, 0⟩ : Slc))] w602 s55 (.slc (⟨(some (⟨r601, 0, none⟩ : Addr)), 1, 1⟩ : Slc)) fun s605 w606 =>
                  (∃ s607 : Slc, World.cell? w606 (a56.add 3) = some (Slc.v s607) ∧
                  (Slc.v s607) = (Slc.v s57)) ∧
                  appendS 1 3 [(Value.int .i64 (0 : Int))] w606 s57 (.slc (⟨(some (⟨r579, 0, none⟩ : Addr)), 1, 1⟩ : Slc)) fun s608 w609 =>
                  needSome u1 fun a610 =>
                  canW w609 (a610.add 1) 1 ∧ ∀ w611 : World, w611 = World.setCell w609 (a610.add 1) (Slc.v s589) →
                  needSome u1 fun a612 =>
                  canW w611 (a612.add 2) 1 ∧ ∀ w613 : World, w613 = World.setCell w611 (a612.add 2) (Slc.v s605) →
                  needSome u1 fun a614 =>
                  canW w613 (a614.add 3) 1 ∧ ∀ w615 : World, w615 = World.setCell w613 (a614.add 3) (Slc.v s608) →
                  inR .i64 (at3 + (1 : Int)) ∧
                  needSome u1 fun a616 =>
                  ∃ n617 : Int, World.cell? w615 (a616.add 6) = some (Value.int .i64 n617) ∧
                  BIf (decide (n617 < (at3 + (1 : Int)))) (
                    inR .i64 (at3 + (1 : Int)) ∧
                    needSome u1 fun a618 =>
                    canW w615 (a618.add 6) 1 ∧ ∀ w619 : World, w619 = World.setCell w615 (a618.add 6) (Value.int .i64 (at3 + (1 : Int))) →
                    K (Value.int .i64 (0 : Int)) w619) (
                    K (Value.int .i64 (0 : Int)) w615)) ∧
                (
                  newS w585 (.cells ⟨[]⟩ 5) fun r620 w621 =>
                  (∃ s622 : Slc, World.cell? w621 (a56.add 3) = some (Slc.v s622) ∧
                  (Slc.v s622) = (Slc.v s57)) ∧
                  (∃ s623 : Slc, World.cell? w621 (a54.add 2) = some (Slc.v s623) ∧
                  (Slc.v s623) = (Slc.v s55)) ∧
                  (∃ s624 : Slc, World.cell? w621 (a52.add 1) = some (Slc.v s624) ∧
                  (Slc.v s624) = (Slc.v s53)) ∧
                  appendS 1 3 [(Value.int .i64 (0 : Int))] w621 s53 (.slc (⟨(some (⟨r584, 0, none⟩ : Addr)), 1, 1⟩ : Slc)) fun s625 w626 =>
                  (∃ s627 : Slc, World.cell? w626 (a56.add 3) = some (Slc.v s627) ∧
                  (Slc.v s627) = (Slc.v s57)) ∧
                  (∃ s628 : Slc, World.cell? w626 (a54.add 2) = some (Slc.v s628) ∧
                  (Slc.v s628) = (Slc.v s55)) ∧
                  appendS 1 5 [(Value.int .u8 (0 : Int))] w626 (⟨(some (⟨r620, 0, none⟩ : Addr)), 0, 0⟩ : Slc) (.slc b4) fun s629 w630 =>
                  (∃ s631 : Slc, World.cell? w630 (a56.add 3) = some (Slc.v s631) ∧
                  (Slc.v s631) = (Slc.v s57)) ∧
                  (∃ s632 : Slc, World.cell? w630 (a54.add 2) = some (Slc.v s632) ∧
                  (Slc.v s632) = (Slc.v s55)) ∧
                  newS w630 (.cells ⟨[(Slc.v s629)]⟩ 45) fun r633 w634 =>
                  (∃ s635 : Slc, World.cell? w634 (a56.add 3) = some (Slc.v s635) ∧
                  (Slc.v s635) = (Slc.v s57)) ∧
                  (∃ s636 : Slc, World.cell? w634 (a54.add 2) = some (Slc.v s636) ∧
                  (Slc.v s636) = (Slc.v s55)) ∧
                  appendS 1 45 [(Slc.v (⟨none, 0, 0⟩ : Slc))] w634 s55 (.slc (⟨(some (⟨r633, 0, none⟩ : Addr)), 1, 1⟩ : Slc)) fun s637 w638 =>
                  (∃ s639 : Slc, World.cell? w638 (a56.add 3) = some (Slc.v s639) ∧
                  (Slc.v s639) = (Slc.v s57)) ∧
                  appendS 1 3 [(Value.int .i64 (0 : Int))] w638 s57 (.slc (⟨(some (⟨r579, 0, none⟩ : Addr)), 1, 1⟩ : Slc)) fun s640 w641 =>
                  needSome u1 fun a642 =>
                  canW w641 (a642.add 1) 1 ∧ ∀ w643 : World, w643 = World.setCell w641 (a642.add 1) (Slc.v s625) →
                  needSome u1 fun a644 =>
                  canW w643 (a644.add 2) 1 ∧ ∀ w645 : World, w645 = World.setCell w643 (a644.add 2) (Slc.v s637) →
                  needSome u1 fun a646 =>
                  canW w645 (a646.add 3) 1 ∧ ∀ w647 : World, w647 = World.setCell w645 (a646.add 3) (Slc.v s640) →
                  inR .i64 (at3 + (1 : Int)) ∧
                  needSome u1 fun a648 =>
                  ∃ n649 : Int, World.cell? w647 (a648.add 6) = some (Value.int .i64 n649) ∧
                  BIf (decide (n649 < (at3 + (1 : Int)))) (
                    inR .i64 (at3 + (1 : Int)) ∧
                    needSome u1 fun a650 =>
                    canW w647 (a650.add 6) 1 ∧ ∀ w651 : World, w651 = World.setCell w647 (a650.add 6) (Value.int .i64 (at3 + (1 : Int))) →
                    K (Value.int .i64 (0 : Int)) w651) (
                    K (Value.int .i64 (0 : Int)) w647))) ∧
              (
                newS w580 (.cells ⟨[]⟩ 5) fun r652 w653 =>
                (∃ s654 : Slc, World.cell? w653 (a56.add 3) = some (Slc.v s654) ∧
                (Slc.v s654) = (Slc.v s57)) ∧
                (∃ s655 : Slc, World.cell? w653 (a54.add 2) = some (Slc.v s655) ∧
                (Slc.v s655) = (Slc.v s55)) ∧
                (∃ s656 : Slc, World.cell? w653 (a52.add 1) = some (Slc.v s656) ∧
                (Slc.v s656) = (Slc.v s53)) ∧
                newS w653 (.cells ⟨[(Value.int .i64 at3)]⟩ 3) fun r657 w658 =>
                (∃ s659 : Slc, World.cell? w658 (a56.add 3) = some (Slc.v s659) ∧
                (Slc.v s659) = (Slc.v s57)) ∧
                (∃ s660 : Slc, World.cell? w658 (a54.add 2) = some (Slc.v s660) ∧
                (Slc.v s660) = (Slc.v s55)) ∧
                (∃ s661 : Slc, World.cell? w658 (a52.add 1) = some (Slc.v s661) ∧
                (Slc.v s661) = (Slc.v s53)) ∧
                appendS 1 3 [(Value.int .i64 (0 : Int))] w658 s53 (.slc (⟨(some (⟨r657, 0, none⟩ : Addr)), 1, 1⟩ : Slc)) fun s662 w663 =>
                (∃ s664 : Slc, World.cell? w663 (a56.add 3) = some (Slc.v s664) ∧
                (Slc.v s664) = (Slc.v s57)) ∧
                (∃ s665 : Slc, World.cell? w663 (a54.add 2) = some (Slc.v s665) ∧
                (Slc.v s665) = (Slc.v s55)) ∧
                appendS 1 5 [(Value.int .u8 (0 : Int))] w663 (⟨(some (⟨r652, 0, none⟩ : Addr)), 0, 0⟩ : Slc) (.slc b4) fun s666 w667 =>
                (∃ s668 : Slc, World.cell? w667 (a56.add 3) = some (Slc.v s668) ∧
                (Slc.v s668) = (Slc.v s57)) ∧
                (∃ s669 : Slc, World.cell? w667 (a54.add 2) = some (Slc.v s669) ∧
                (Slc.v s669) = (Slc.v s55)) ∧
                newS w667 (.cells ⟨[(Slc.v s666)]⟩ 45) fun r670 w671 =>
                (∃ s672 : Slc, World.cell? w671 (a56.add 3) = some (Slc.v s672) ∧
                (Slc.v s672) = (Slc.v s57)) ∧
                (∃ s673 : Slc, World.cell? w671 (a54.add 2) = some (Slc.v s673) ∧
                (Slc.v s673) = (Slc.v s55)) ∧
                appendS 1 45 [(Slc.v (⟨none, 0, 0⟩ : Slc))] w671 s55 (.slc (⟨(some (⟨r670, 0, none⟩ : Addr)), 1, 1⟩ : Slc)) fun s674 w675 =>
                (∃ s676 : Slc, World.cell? w675 (a56.add 3) = some (Slc.v s676) ∧
                (Slc.v s676) = (Slc.v s57)) ∧
                appendS 1 3 [(Value.int .i64 (0 : Int))] w675 s57 (.slc (⟨(some (⟨r579, 0, none⟩ : Addr)), 1, 1⟩ : Slc)) fun s677 w678 =>
                needSome u1 fun a679 =>
                canW w678 (a679.add 1) 1 ∧ ∀ w680 : World, w680 = World.setCell w678 (a679.add 1) (Slc.v s662) →
                needSome u1 fun a681 =>
                canW w680 (a681.add 2) 1 ∧ ∀ w682 : World, w682 = World.setCell w680 (a681.add 2) (Slc.v s674) →
                needSome u1 fun a683 =>
                canW w682 (a683.add 3) 1 ∧ ∀ w684 : World, w684 = World.setCell w682 (a683.add 3) (Slc.v s677) →
                inR .i64 (at3 + (1 : Int)) ∧
                needSome u1 fun a685 =>
                ∃ n686 : Int, World.cell? w684 (a685.add 6) = some (Value.int .i64 n686) ∧
                BIf (decide (n686 < (at3 + (1 : Int)))) (
                  inR .i64 (at3 + (1 : Int)) ∧
                  needSome u1 fun a687 =>
                  canW w684 (a687.add 6) 1 ∧ ∀ w688 : World, w688 = World.setCell w684 (a687.add 6) (Value.int .i64 (at3 + (1 : Int))) →
                  K (Value.int .i64 (0 : Int)) w688) (
                  K (Value.int .i64 (0 : Int)) w684))))))))

theorem tidewaterref09_Unit_Write_eq (u1 : Option Addr) (epoch2 : Int) (at3 : Int) (b4 : Slc) (w : World) (K : Value → World → Prop) : tidewaterref09_Unit_Write u1 epoch2 at3 b4 w K = denF Tryz.prog callB Tryz.f14 (.two .none (.two .none (.cut [] [8, 19, 20, 21, 22, 23, 24, 25, 26] .none .none))) [(Value.pointer u1), (Value.int .i64 epoch2), (Value.int .i64 at3), (Slc.v b4)] w K := by kernel_rfl
theorem tidewaterref09_Unit_Write_ok (u1 : Option Addr) (epoch2 : Int) (at3 : Int) (b4 : Slc) {w : World} {R : Ending → World → Prop} (h : tidewaterref09_Unit_Write u1 epoch2 at3 b4 w fun v w' => R (.returned v) w') : Calls Tryz.prog fn_tidewaterref09_Unit_Write ⟨[(Value.pointer u1), (Value.int .i64 epoch2), (Value.int .i64 at3), (Slc.v b4)]⟩ w R :=
  calls_of_den callB_ok mixed Tryz.func14 (tidewaterref09_Unit_Write_eq u1 epoch2 at3 b4 w _ ▸ h)

/-- (*tidewater/tidewaterref09.Unit).Read -/
def tidewaterref09_Unit_Read (u1 : Option Addr) (epoch2 : Int) (at3 : Int) (w : World) (K : Value → World → Prop) : Prop :=
  Calls Tryz.prog fn_tidewaterref09_Unit_check ⟨[(Value.pointer u1), (Value.int .i64 epoch2), (Value.int .i64 at3), (Value.int .i64 (4095 : Int))]⟩ w fun e4 w5 =>
  ∃ n6 : Int, e4 = .returned (Value.int .i64 n6) ∧
  BIf (!decide (n6 = (0 : Int))) (
    K (Value.tuple ⟨[(Slc.v (⟨none, 0, 0⟩ : Slc)), (Value.int .i64 n6)]⟩) w5) (
    needSome u1 fun a7 =>
    ∃ n8 : Int, World.cell? w5 (a7.add 4) = some (Value.int .i64 n8) ∧
    BIf (decide (at3 < n8)) (
      K (Value.tuple ⟨[(Slc.v (⟨none, 0, 0⟩ : Slc)), (Value.int .i64 (11 : Int))]⟩) w5) (
      Calls Tryz.prog fn_tidewaterref09_Unit_find ⟨[(Value.pointer u1), (Value.int .i64 at3)]⟩ w5 fun e9 w10 =>
      ∃ n11 : Int, e9 = .returned (Value.int .i64 n11) ∧
      BIf (decide (n11 < (0 : Int))) (
        K (Value.tuple ⟨[(Slc.v (⟨none, 0, 0⟩ : Slc)), (Value.int .i64 (10 : Int))]⟩) w10) (
        newS w10 (.cells ⟨[]⟩ 5) fun r12 w13 =>
        needSome u1 fun a14 =>
        ∃ s15 : Slc, World.cell? w13 (a14.add 2) = some (Slc.v s15) ∧
        needSome s15.p fun a16 =>
        0 ≤ n11 ∧ n11 < ((s15.l : Nat) : Int) ∧
        ∃ s17 : Slc, World.cell? w13 (Addr.add a16 ((Int.toNat n11) * 1)) = some (Slc.v s17) ∧
        appendS 1 5 [(Value.int .u8 (0 : Int))] w13 (⟨(some (⟨r12, 0, none⟩ : Addr)), 0, 0⟩ : Slc) (.slc s17) fun s18 w19 =>
        K (Value.tuple ⟨[(Slc.v s18), (Value.int .i64 (0 : Int))]⟩) w19)))

theorem tidewaterref09_Unit_Read_eq (u1 : Option Addr) (epoch2 : Int) (at3 : Int) (w : World) (K : Value → World → Prop) : tidewaterref09_Unit_Read u1 epoch2 at3 w K = denF Tryz.prog callB Tryz.f26 .none [(Value.pointer u1), (Value.int .i64 epoch2), (Value.int .i64 at3)] w K := by kernel_rfl
theorem tidewaterref09_Unit_Read_ok (u1 : Option Addr) (epoch2 : Int) (at3 : Int) {w : World} {R : Ending → World → Prop} (h : tidewaterref09_Unit_Read u1 epoch2 at3 w fun v w' => R (.returned v) w') : Calls Tryz.prog fn_tidewaterref09_Unit_Read ⟨[(Value.pointer u1), (Value.int .i64 epoch2), (Value.int .i64 at3)]⟩ w R :=
  calls_of_den callB_ok mixed Tryz.func26 (tidewaterref09_Unit_Read_eq u1 epoch2 at3 w _ ▸ h)

/-- (*tidewater/tidewaterref09.Unit).Trim -/
def tidewaterref09_Unit_Trim (u1 : Option Addr) (epoch2 : Int) (to3 : Int) (w : World) (K : Value → World → Prop) : Prop :=
  Calls Tryz.prog fn_tidewaterref09_Unit_check ⟨[(Value.pointer u1), (Value.int .i64 epoch2), (Value.int .i64 to3), (Value.int .i64 (4096 : Int))]⟩ w fun e4 w5 =>
  ∃ n6 : Int, e4 = .returned (Value.int .i64 n6) ∧
  BIf (!decide (n6 = (0 : Int))) (
    K (Value.int .i64 n6) w5) (
    needSome u1 fun a7 =>
    ∃ n8 : Int, World.cell? w5 (a7.add 4) = some (Value.int .i64 n8) ∧
    BIf (decide (to3 ≤ n8)) (
      K (Value.int .i64 (0 : Int)) w5) (
      needSome u1 fun a9 =>
      ∃ p10 : Option Addr, World.cell? (World.drew w5) a9 = some (Value.pointer p10) ∧
      needSome u1 fun a11 =>
      ∃ n12 : Int, World.cell? (World.drew w5) (a11.add 5) = some (Value.int .i64 n12) ∧
      Calls Tryz.prog fn_tidewaterref04_Num ⟨[(Value.int .i64 (2 : Int))]⟩ (World.drew w5) fun e13 w14 =>
      ∃ s15 : Slc, e13 = .returned (Slc.v s15) ∧
      (∃ n16 : Int, World.cell? w14 (a11.add 5) = some (Value.int .i64 n16) ∧
      (Value.int .i64 n16) = (Value.int .i64 n12)) ∧
      (∃ p17 : Option Addr, World.cell? w14 a9 = some (Value.pointer p17) ∧
      (Value.pointer p17) = (Value.pointer p10)) ∧
      Calls Tryz.prog fn_tidewaterref04_Num ⟨[(Value.int .i64 to3)]⟩ w14 fun e18 w19 =>
      ∃ s20 : Slc, e18 = .returned (Slc.v s20) ∧
      (∃ n21 : Int, World.cell? w19 (a11.add 5) = some (Value.int .i64 n21) ∧
      (Value.int .i64 n21) = (Value.int .i64 n12)) ∧
      (∃ p22 : Option Addr, World.cell? w19 a9 = some (Value.pointer p22) ∧
      (Value.pointer p22) = (Value.pointer p10)) ∧
      Calls Tryz.prog fn_tidewaterref04_Num ⟨[(Value.int .i64 n12)]⟩ w19 fun e23 w24 =>
      ∃ s25 : Slc, e23 = .returned (Slc.v s25) ∧
      (∃ p26 : Option Addr, World.cell? w24 a9 = some (Value.pointer p26) ∧
      (Value.pointer p26) = (Value.pointer p10)) ∧
      newS w24 (.cells ⟨[(Slc.v s15), (Slc.v s20), (Slc.v s25)]⟩ 45) fun r27 w28 =>
      (∃ p29 : Option Addr, World.cell? w28 a9 = some (Value.pointer p29) ∧
      (Value.pointer p29) = (Value.pointer p10)) ∧
      Calls Tryz.prog fn_tidewaterref09_row ⟨[(Slc.v (⟨(some (⟨r27, 0, none⟩ : Addr)), 3, 3⟩ : Slc))]⟩ w28 fun e30 w31 =>
      ∃ s32 : Slc, e30 = .returned (Slc.v s32) ∧
      (∃ p33 : Option Addr, World.cell? w31 a9 = some (Value.pointer p33) ∧
      (Value.pointer p33) = (Value.pointer p10)) ∧
      Calls Tryz.prog fn_tidewaterref08_Store_Append ⟨[(Value.pointer p10), (Slc.v s32)]⟩ w31 fun e34 w35 =>
      ∃ n36 : Int, ∃ n37 : Int, e34 = .returned (Value.tuple ⟨[(Value.int .i64 n36), (Value.int .i64 n37)]⟩) ∧
      BIf (!decide (n37 = (0 : Int))) (
        K (Value.int .i64 n37) w35) (
        needSome u1 fun a38 =>
        canW w35 (a38.add 4) 1 ∧ ∀ w39 : World, w39 = World.setCell w35 (a38.add 4) (Value.int .i64 to3) →
        ∃ (I40 : World → Prop) (mu41 : World → Nat), I40 w39 ∧ (
        ∀ w42 : World, I40 w42 → ∀ u43 u44 u45 u46 u47 u48 u49 u50 u51 u52 u53 u54 u55 u56 u57 u58 u59 u60 u61 u62 u63 u64 u65 u66 u67 u68 u69 u70 u71 u72 u73 u74 u75 u76 u77 u78 u79 u80 u81 u82 u83 u84 u85 u86 u87 u88 u89 u90 u91 u92 u93 u94 u95 u96 : Value,
          needSome u1 fun a97 =>
          ∃ p98 : Option Addr, World.cell? w42 a97 = some (Value.pointer p98) ∧
          needSome p98 fun a99 =>
          ∃ s100 : Slc, World.cell? w42 (a99.add 1) = some (Slc.v s100) ∧
          BIf (decide ((1 : Int) < ((s100.l : Nat) : Int))) (
            needSome u1 fun a101 =>
            ∃ p102 : Option Addr, World.cell? w42 a101 = some (Value.pointer p102) ∧
            needSome p102 fun a103 =>
            ∃ s104 : Slc, World.cell? w42 (a103.add 1) = some (Slc.v s104) ∧
            needSome s104.p fun a105 =>
            0 ≤ (0 : Int) ∧ (0 : Int) < ((s104.l : Nat) : Int) ∧
            ∃ n106 : Int, World.cell? w42 (a105.add 1) = some (Value.int .i64 n106) ∧
            needSome u1 fun a107 =>
            ∃ s108 : Slc, World.cell? w42 (a107.add 3) = some (Slc.v s108) ∧
            ∃ (I109 : (Int) → World → Prop) (mu110 : (Int) → World → Nat), I109 ((0 : Int)) w42 ∧ (
            ∀ i111 : Int, ∀ w112 : World, I109 i111 w112 → ∀ u113 u114 u115 u116 u117 u118 u119 u120 u121 u122 u123 u124 u125 u126 u127 u128 u129 u130 u131 u132 u133 u134 : Value,
              BIf (decide (i111 < ((s108.l : Nat) : Int))) (
                needSome s108.p fun a135 =>
                0 ≤ i111 ∧ i111 < ((s108.l : Nat) : Int) ∧
                ∃ n136 : Int, World.cell? w112 (Addr.add a135 ((Int.toNat i111) * 1)) = some (Value.int .i64 n136) ∧
                BIf (decide (n136 = n106)) (
                  needSome u1 fun a137 =>
                  ∃ s138 : Slc, World.cell? w112 (a137.add 1) = some (Slc.v s138) ∧
                  needSome s138.p fun a139 =>
                  0 ≤ i111 ∧ i111 < ((s138.l : Nat) : Int) ∧
                  ∃ n140 : Int, World.cell? w112 (Addr.add a139 ((Int.toNat i111) * 1)) = some (Value.int .i64 n140) ∧
                  BIf (decide (to3 ≤ n140)) (
                    K (Value.int .i64 (0 : Int)) w112) (
                    inR .i64 (i111 + (1 : Int)) ∧
                    (I109 ((i111 + (1 : Int))) w112 ∧ mu110 ((i111 + (1 : Int))) w112 < mu110 i111 w112))) (
                  inR .i64 (i111 + (1 : Int)) ∧
                  (I109 ((i111 + (1 : Int))) w112 ∧ mu110 ((i111 + (1 : Int))) w112 < mu110 i111 w112))) (
                needSome u1 fun a141 =>
                ∃ p142 : Option Addr, World.cell? w112 a141 = some (Value.pointer p142) ∧
                Calls Tryz.prog fn_tidewaterref08_Store_Drop ⟨[(Value.pointer p142), (Value.int .i64 n106)]⟩ w112 fun e143 w144 =>
                ∃ n145 : Int, e143 = .returned (Value.int .i64 n145) ∧
                (I40 w144 ∧ mu41 w144 < mu41 w42)))) (
            K (Value.int .i64 (0 : Int)) w42)))))

theorem tidewaterref09_Unit_Trim_eq (u1 : Option Addr) (epoch2 : Int) (to3 : Int) (w : World) (K : Value → World → Prop) : tidewaterref09_Unit_Trim u1 epoch2 to3 w K = denF Tryz.prog callB Tryz.f16 (.two .none (.two .none (.two .none (.two .none (.two .none (.two (.one (.loop [] [6, 10, 11, 12, 51, 52, 53, 54, 55, 56, 57, 58, 59, 60, 61, 62, 63, 64, 65, 66, 67, 68, 69, 70, 71, 72, 73, 74, 75, 76, 77, 78, 79, 80, 81, 82, 83, 84, 85, 86, 87, 88, 89, 90, 91, 92, 93, 94, 95, 96, 97, 98, 99, 100] (.two .none (.one (.two .none (.two (.two .none (.one (.loop [(75, (Sh.int .i64))] [6, 11, 12, 76, 77, 78, 79, 80, 81, 82, 83, 84, 85, 86, 87, 88, 89, 90, 91, 92, 93, 94] .none))) .none)))))) .none)))))) [(Value.pointer u1), (Value.int .i64 epoch2), (Value.int .i64 to3)] w K := by kernel_rfl
theorem tidewaterref09_Unit_Trim_ok (u1 : Option Addr) (epoch2 : Int) (to3 : Int) {w : World} {R : Ending → World → Prop} (h : tidewaterref09_Unit_Trim u1 epoch2 to3 w fun v w' => R (.returned v) w') : Calls Tryz.prog fn_tidewaterref09_Unit_Trim ⟨[(Value.pointer u1), (Value.int .i64 epoch2), (Value.int .i64 to3)]⟩ w R :=
  calls_of_den callB_ok mixed Tryz.func16 (tidewaterref09_Unit_Trim_eq u1 epoch2 to3 w _ ▸ h)

/-- (*tidewater/tidewaterref09.Unit).Seal -/
def tidewaterref09_Unit_Seal (u1 : Option Addr) (epoch2 : Int) (w : World) (K : Value → World → Prop) : Prop :=
  ∃ J3 : World → Prop,
  (
    BIf (decide (epoch2 < (0 : Int))) (
      K (Value.tuple ⟨[(Value.int .i64 (0 : Int)), (Value.int .i64 (14 : Int))]⟩) w) (
      BIf (decide ((1073741824 : Int) < epoch2)) (
        K (Value.tuple ⟨[(Value.int .i64 (0 : Int)), (Value.int .i64 (14 : Int))]⟩) w) (
        J3 w))) ∧ (
  ∀ w4 : World, J3 w4 → ∀ u5 u6 u7 u8 u9 u10 u11 u12 : Value,
    needSome u1 fun a13 =>
    ∃ n14 : Int, World.cell? w4 (a13.add 5) = some (Value.int .i64 n14) ∧
    BIf (decide (epoch2 < n14)) (
      K (Value.tuple ⟨[(Value.int .i64 (0 : Int)), (Value.int .i64 (8 : Int))]⟩) w4) (
      needSome u1 fun a15 =>
      ∃ n16 : Int, World.cell? w4 (a15.add 5) = some (Value.int .i64 n16) ∧
      BIf (decide (n16 < epoch2)) (
        needSome u1 fun a17 =>
        ∃ p18 : Option Addr, World.cell? (World.drew w4) a17 = some (Value.pointer p18) ∧
        Calls Tryz.prog fn_tidewaterref04_Num ⟨[(Value.int .i64 (3 : Int))]⟩ (World.drew w4) fun e19 w20 =>
        ∃ s21 : Slc, e19 = .returned (Slc.v s21) ∧
        (∃ p22 : Option Addr, World.cell? w20 a17 = some (Value.pointer p22) ∧
        (Value.pointer p22) = (Value.pointer p18)) ∧
        Calls Tryz.prog fn_tidewaterref04_Num ⟨[(Value.int .i64 epoch2)]⟩ w20 fun e23 w24 =>
        ∃ s25 : Slc, e23 = .returned (Slc.v s25) ∧
        (∃ p26 : Option Addr, World.cell? w24 a17 = some (Value.pointer p26) ∧
        (Value.pointer p26) = (Value.pointer p18)) ∧
        newS w24 (.cells ⟨[(Slc.v s21), (Slc.v s25)]⟩ 45) fun r27 w28 =>
        (∃ p29 : Option Addr, World.cell? w28 a17 = some (Value.pointer p29) ∧
        (Value.pointer p29) = (Value.pointer p18)) ∧
        Calls Tryz.prog fn_tidewaterref09_row ⟨[(Slc.v (⟨(some (⟨r27, 0, none⟩ : Addr)), 2, 2⟩ : Slc))]⟩ w28 fun e30 w31 =>
        ∃ s32 : Slc, e30 = .returned (Slc.v s32) ∧
        (∃ p33 : Option Addr, World.cell? w31 a17 = some (Value.pointer p33) ∧
        (Value.pointer p33) = (Value.pointer p18)) ∧
        Calls Tryz.prog fn_tidewaterref08_Store_Append ⟨[(Value.pointer p18), (Slc.v s32)]⟩ w31 fun e34 w35 =>
        ∃ n36 : Int, ∃ n37 : Int, e34 = .returned (Value.tuple ⟨[(Value.int .i64 n36), (Value.int .i64 n37)]⟩) ∧
        BIf (!decide (n37 = (0 : Int))) (
          K (Value.tuple ⟨[(Value.int .i64 (0 : Int)), (Value.int .i64 n37)]⟩) w35) (
          needSome u1 fun a38 =>
          canW w35 (a38.add 5) 1 ∧ ∀ w39 : World, w39 = World.setCell w35 (a38.add 5) (Value.int .i64 epoch2) →
          Calls Tryz.prog fn_tidewaterref09_Unit_Tail ⟨[(Value.pointer u1)]⟩ w39 fun e40 w41 =>
          ∃ n42 : Int, e40 = .returned (Value.int .i64 n42) ∧
          K (Value.tuple ⟨[(Value.int .i64 n42), (Value.int .i64 (0 : Int))]⟩) w41)) (
        Calls Tryz.prog fn_tidewaterref09_Unit_Tail ⟨[(Value.pointer u1)]⟩ w4 fun e43 w44 =>
        ∃ n45 : Int, e43 = .returned (Value.int .i64 n45) ∧
        K (Value.tuple ⟨[(Value.int .i64 n45), (Value.int .i64 (0 : Int))]⟩) w44)))

theorem tidewaterref09_Unit_Seal_eq (u1 : Option Addr) (epoch2 : Int) (w : World) (K : Value → World → Prop) : tidewaterref09_Unit_Seal u1 epoch2 w K = denF Tryz.prog callB Tryz.f18 (.two .none (.cut [] [4, 5, 8, 9, 10, 11, 12, 13] .none .none)) [(Value.pointer u1), (Value.int .i64 epoch2)] w K := by kernel_rfl
theorem tidewaterref09_Unit_Seal_ok (u1 : Option Addr) (epoch2 : Int) {w : World} {R : Ending → World → Prop} (h : tidewaterref09_Unit_Seal u1 epoch2 w fun v w' => R (.returned v) w') : Calls Tryz.prog fn_tidewaterref09_Unit_Seal ⟨[(Value.pointer u1), (Value.int .i64 epoch2)]⟩ w R :=
  calls_of_den callB_ok mixed Tryz.func18 (tidewaterref09_Unit_Seal_eq u1 epoch2 w _ ▸ h)

/-- (*tidewater/tidewaterref09.Unit).Tail -/
def tidewaterref09_Unit_Tail (u1 : Option Addr) (w : World) (K : Value → World → Prop) : Prop :=
  needSome u1 fun a2 =>
  ∃ n3 : Int, World.cell? (World.drew w) (a2.add 6) = some (Value.int .i64 n3) ∧
  needSome u1 fun a4 =>
  ∃ n5 : Int, World.cell? (World.drew w) (a4.add 4) = some (Value.int .i64 n5) ∧
  K (Value.int .i64 (if n5 > n3 then n5 else n3)) (World.drew w)

theorem tidewaterref09_Unit_Tail_eq (u1 : Option Addr) (w : World) (K : Value → World → Prop) : tidewaterref09_Unit_Tail u1 w K = denF Tryz.prog callB Tryz.f29 .none [(Value.pointer u1)] w K := by kernel_rfl
theorem tidewaterref09_Unit_Tail_ok (u1 : Option Addr) {w : World} {R : Ending → World → Prop} (h : tidewaterref09_Unit_Tail u1 w fun v w' => R (.returned v) w') : Calls Tryz.prog fn_tidewaterref09_Unit_Tail ⟨[(Value.pointer u1)]⟩ w R :=
  calls_of_den callB_ok mixed Tryz.func29 (tidewaterref09_Unit_Tail_eq u1 w _ ▸ h)

/-- (*tidewater/tidewaterref09.Unit).Copy -/
def tidewaterref09_Unit_Copy (u1 : Option Addr) (w : World) (K : Value → World → Prop) : Prop :=
  needSome u1 fun a2 =>
  ∃ p3 : Option Addr, ∃ s4 : Slc, ∃ s5 : Slc, ∃ s6 : Slc, ∃ n7 : Int, ∃ n8 : Int, ∃ n9 : Int, rowAt w a2 0 [(Value.pointer p3), (Slc.v s4), (Slc.v s5), (Slc.v s6), (Value.int .i64 n7), (Value.int .i64 n8), (Value.int .i64 n9)] ∧
  newS w (.cells ⟨[(Value.pointer none), (Slc.v (⟨none, 0, 0⟩ : Slc)), (Slc.v (⟨none, 0, 0⟩ : Slc)), (Slc.v (⟨none, 0, 0⟩ : Slc)), (Value.int .i64 (0 : Int)), (Value.int .i64 (0 : Int)), (Value.int .i64 (0 : Int))]⟩ 70) fun r10 w11 =>
  canW w11 (⟨r10, 0, none⟩ : Addr) 7 ∧ ∀ w12 : World, w12 = setCells w11 (⟨r10, 0, none⟩ : Addr) 0 [(Value.pointer p3), (Slc.v s4), (Slc.v s5), (Slc.v s6), (Value.int .i64 n7), (Value.int .i64 n8), (Value.int .i64 n9)] →
  needSome u1 fun a13 =>
  ∃ p14 : Option Addr, World.cell? w12 a13 = some (Value.pointer p14) ∧
  Calls Tryz.prog fn_tidewaterref08_Store_Copy ⟨[(Value.pointer p14)]⟩ w12 fun e15 w16 =>
  ∃ p17 : Option Addr, e15 = .returned (Value.pointer p17) ∧
  canW w16 (⟨r10, 0, none⟩ : Addr) 1 ∧ ∀ w18 : World, w18 = World.setCell w16 (⟨r10, 0, none⟩ : Addr) (Value.pointer p17) →
  newS w18 (.cells ⟨[]⟩ 3) fun r19 w20 =>
  needSome u1 fun a21 =>
  ∃ s22 : Slc, World.cell? w20 (a21.add 1) = some (Slc.v s22) ∧
  appendS 1 3 [(Value.int .i64 (0 : Int))] w20 (⟨(some (⟨r19, 0, none⟩ : Addr)), 0, 0⟩ : Slc) (.slc s22) fun s23 w24 =>
  canW w24 (⟨r10, 1, none⟩ : Addr) 1 ∧ ∀ w25 : World, w25 = World.setCell w24 (⟨r10, 1, none⟩ : Addr) (Slc.v s23) →
  newS w25 (.cells ⟨[]⟩ 45) fun r26 w27 =>
  needSome u1 fun a28 =>
  ∃ s29 : Slc, World.cell? w27 (a28.add 2) = some (Slc.v s29) ∧
  appendS 1 45 [(Slc.v (⟨none, 0, 0⟩ : Slc))] w27 (⟨(some (⟨r26, 0, none⟩ : Addr)), 0, 0⟩ : Slc) (.slc s29) fun s30 w31 =>
  canW w31 (⟨r10, 2, none⟩ : Addr) 1 ∧ ∀ w32 : World, w32 = World.setCell w31 (⟨r10, 2, none⟩ : Addr) (Slc.v s30) →
  newS w32 (.cells ⟨[]⟩ 3) fun r33 w34 =>
  needSome u1 fun a35 =>
  ∃ s36 : Slc, World.cell? w34 (a35.add 3) = some (Slc.v s36) ∧
  appendS 1 3 [(Value.int .i64 (0 : Int))] w34 (⟨(some (⟨r33, 0, none⟩ : Addr)), 0, 0⟩ : Slc) (.slc s36) fun s37 w38 =>
  canW w38 (⟨r10, 3, none⟩ : Addr) 1 ∧ ∀ w39 : World, w39 = World.setCell w38 (⟨r10, 3, none⟩ : Addr) (Slc.v s37) →
  K (Value.pointer (some (⟨r10, 0, none⟩ : Addr))) w39

theorem tidewaterref09_Unit_Copy_eq (u1 : Option Addr) (w : World) (K : Value → World → Prop) : tidewaterref09_Unit_Copy u1 w K = denF Tryz.prog callB Tryz.f10 .none [(Value.pointer u1)] w K := by kernel_rfl
theorem tidewaterref09_Unit_Copy_ok (u1 : Option Addr) {w : World} {R : Ending → World → Prop} (h : tidewaterref09_Unit_Copy u1 w fun v w' => R (.returned v) w') : Calls Tryz.prog fn_tidewaterref09_Unit_Copy ⟨[(Value.pointer u1)]⟩ w R :=
  calls_of_den callB_ok mixed Tryz.func10 (tidewaterref09_Unit_Copy_eq u1 w _ ▸ h)

end Go.D
