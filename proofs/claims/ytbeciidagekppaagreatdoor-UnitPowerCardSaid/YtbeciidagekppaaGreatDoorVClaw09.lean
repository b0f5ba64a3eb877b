/-
  WHAT IS PROVED: verification conditions of functions of this program, each with its soundness. No further conditions.
-/
import Derived.Test.YtbeciidagekppaaGreatDoorBase
set_option linter.unusedSimpArgs false
set_option maxRecDepth 100000
set_option linter.unusedVariables false
namespace Go.D
open Go Go.Proofs
/-- tidewater/tidewaterlaw09.alive -/
def tidewaterlaw09_alive  (w : World) (K : Value → World → Prop) : Prop :=
  Calls Tryz.prog fn_disk_New ⟨[(Value.int .i64 (64 : Int))]⟩ w fun e1 w2 =>
  ∃ p3 : Option Addr, ∃ e4 : Value, e1 = .returned (Value.tuple ⟨[(Value.pointer p3), e4]⟩) ∧
  ∃ J5 : World → Prop,
  (
    isI e4 ∧
    BIf (!isNilI e4) (
      K (Value.bool false) w2) (
      BIf (Option.isNone (p3 : Option Addr)) (
        K (Value.bool false) w2) (
        J5 w2))) ∧ (
  ∀ w6 : World, J5 w6 → ∀ u7 u8 u9 u10 u11 u12 u13 : Value,
    Calls Tryz.prog fn_unit_Open ⟨[(Value.pointer p3)]⟩ w6 fun e14 w15 =>
    ∃ p16 : Option Addr, ∃ e17 : Value, e14 = .returned (Value.tuple ⟨[(Value.pointer p16), e17]⟩) ∧
    ∃ J18 : World → Prop,
    (
      isI e17 ∧
      BIf (!isNilI e17) (
        K (Value.bool false) w15) (
        BIf (Option.isNone (p16 : Option Addr)) (
          K (Value.bool false) w15) (
          J18 w15))) ∧ (
    ∀ w19 : World, J18 w19 → ∀ u20 u21 u22 u23 u24 u25 u26 : Value,
      newS w19 (.cells ⟨[(Value.int .u8 (97 : Int))]⟩ 5) fun r27 w28 =>
      ∀ w30 : World, w30 = markW w28 r27 →
      Calls Tryz.prog fn_unit_Unit_Write ⟨[(Value.pointer p16), (Value.int .i64 (0 : Int)), (Value.int .i64 (3 : Int)), (Slc.v (⟨(some (⟨r27, 0, none⟩ : Addr)), 1, 1⟩ : Slc))]⟩ w30 fun e31 w32 =>
      ∃ e33 : Value, e31 = .returned e33 ∧
      isI e33 ∧
      BIf (isNilI e33) (
        newS w32 (.cells ⟨[(Value.int .u8 (98 : Int))]⟩ 5) fun r34 w35 =>
        ∀ w37 : World, w37 = markW w35 r34 →
        Calls Tryz.prog fn_unit_Unit_Write ⟨[(Value.pointer p16), (Value.int .i64 (0 : Int)), (Value.int .i64 (3 : Int)), (Slc.v (⟨(some (⟨r34, 0, none⟩ : Addr)), 1, 1⟩ : Slc))]⟩ w37 fun e38 w39 =>
        ∃ e40 : Value, e38 = .returned e40 ∧
        Calls Tryz.prog fn_tidewaternum_Num ⟨[e40]⟩ w39 fun e41 w42 =>
        ∃ n43 : Int, e41 = .returned (Value.int .i64 n43) ∧
        BIf (decide (n43 = (9 : Int))) (
          Calls Tryz.prog fn_unit_Unit_Tail ⟨[(Value.pointer p16)]⟩ w42 fun e44 w45 =>
          ∃ n46 : Int, e44 = .returned (Value.int .i64 n46) ∧
          K (Value.bool (decide (n46 = (4 : Int)))) w45) (
          K (Value.bool false) w42)) (
        K (Value.bool false) w32)))

theorem tidewaterlaw09_alive_eq  (w : World) (K : Value → World → Prop) : tidewaterlaw09_alive  w K = denF Tryz.prog callB Tryz.f5 (.two .none (.two .none (.cut [] [0, 8, 9, 10, 11, 12, 13] .none (.two .none (.cut [] [0, 19, 20, 21, 22, 23, 24] .none .none))))) [] w K := by kernel_rfl
theorem tidewaterlaw09_alive_ok  {w : World} {R : Ending → World → Prop} (h : tidewaterlaw09_alive  w fun v w' => R (.returned v) w') : Calls Tryz.prog fn_tidewaterlaw09_alive ⟨[]⟩ w R :=
  calls_of_den callB_ok mixed Tryz.func5 (tidewaterlaw09_alive_eq  w _ ▸ h)

/-- (tidewater/tidewaterlaw09.Act).page -/
def tidewaterlaw09_Act_page (a1 : Int) (a2 : Int) (a3 : Int) (a4 : Int) (a5 : Int) (w : World) (K : Value → World → Prop) : Prop :=
  newS w (.cells ⟨[(Value.int .i64 a1), (Value.int .i64 a2), (Value.int .i64 a3), (Value.int .i64 a4), (Value.int .u8 a5)]⟩ 30) fun r6 w7 =>
  ∃ n8 : Int, World.cell? w7 (⟨r6, 3, none⟩ : Addr) = some (Value.int .i64 n8) ∧
  ∃ J9 : (Int) → World → Prop,
  (
    BIf (decide (n8 < (0 : Int))) (
      J9 ((2050 : Int)) w7) (
      BIf (decide ((2050 : Int) < n8)) (
        J9 ((2050 : Int)) w7) (
        J9 (n8) w7))) ∧ (
  ∀ n10 : Int, ∀ w11 : World, J9 n10 w11 → ∀ u12 u13 u14 u15 u16 u17 : Value,
    0 ≤ n10 ∧ n10 ≤ n10 ∧ n10 ≤ 2 ^ 30 ∧
    newS w11 (.cells ⟨repl (Int.toNat n10) [(Value.int .u8 (0 : Int))]⟩ 5) fun r18 w19 =>
    ∃ (I20 : (Int) → World → Prop) (mu21 : (Int) → World → Nat), I20 ((0 : Int)) w19 ∧ (
    ∀ i22 : Int, ∀ w23 : World, I20 i22 w23 → ∀ u24 u25 u26 u27 u28 u29 u30 u31 u32 : Value,
      BIf (decide (i22 < (((Int.toNat n10) : Nat) : Int))) (
        ∃ n33 : Int, World.cell? w23 (⟨r6, 4, none⟩ : Addr) = some (Value.int .u8 n33) ∧
        0 ≤ i22 ∧ i22 < (((Int.toNat n10) : Nat) : Int) ∧
        canW w23 (Addr.add (⟨r18, 0, none⟩ : Addr) ((Int.toNat i22) * 1)) 1 ∧ ∀ w34 : World, w34 = World.setCell w23 (Addr.add (⟨r18, 0, none⟩ : Addr) ((Int.toNat i22) * 1)) (Value.int .u8 n33) →
        inR .i64 (i22 + (1 : Int)) ∧
        (I20 ((i22 + (1 : Int))) w34 ∧ mu21 ((i22 + (1 : Int))) w34 < mu21 i22 w23)) (
        K (Slc.v (⟨(some (⟨r18, 0, none⟩ : Addr)), (Int.toNat n10), (Int.toNat n10)⟩ : Slc)) w23)))

theorem tidewaterlaw09_Act_page_eq (a1 : Int) (a2 : Int) (a3 : Int) (a4 : Int) (a5 : Int) (w : World) (K : Value → World → Prop) : tidewaterlaw09_Act_page a1 a2 a3 a4 a5 w K = denF Tryz.prog callB Tryz.f13 (.two .none (.two .none (.cut [(3, (Sh.int .i64))] [8, 9, 10, 11, 12, 13] .none (.two .none (.two (.two .none (.one (.loop [(18, (Sh.int .i64))] [5, 19, 20, 21, 22, 23, 24, 25, 26] .none))) .none))))) [(Value.agg ⟨[(Value.int .i64 a1), (Value.int .i64 a2), (Value.int .i64 a3), (Value.int .i64 a4), (Value.int .u8 a5)]⟩)] w K := by kernel_rfl
theorem tidewaterlaw09_Act_page_ok (a1 : Int) (a2 : Int) (a3 : Int) (a4 : Int) (a5 : Int) {w : World} {R : Ending → World → Prop} (h : tidewaterlaw09_Act_page a1 a2 a3 a4 a5 w fun v w' => R (.returned v) w') : Calls Tryz.prog fn_tidewaterlaw09_Act_page ⟨[(Value.agg ⟨[(Value.int .i64 a1), (Value.int .i64 a2), (Value.int .i64 a3), (Value.int .i64 a4), (Value.int .u8 a5)]⟩)]⟩ w R :=
  calls_of_den callB_ok mixed Tryz.func13 (tidewaterlaw09_Act_page_eq a1 a2 a3 a4 a5 w _ ▸ h)

/-- tidewater/tidewaterlaw09.same -/
def tidewaterlaw09_same (u1 : Option Addr) (w2 : Option Addr) (w : World) (K : Value → World → Prop) : Prop :=
  ∃ J3 : World → Prop,
  (
    needSome w2 fun a4 =>
    ∃ n5 : Int, World.cell? (World.drew w) (a4.add 5) = some (Value.int .i64 n5) ∧
    Calls Tryz.prog fn_unit_Unit_Epoch ⟨[(Value.pointer u1)]⟩ (World.drew w) fun e6 w7 =>
    ∃ n8 : Int, e6 = .returned (Value.int .i64 n8) ∧
    (∃ n9 : Int, World.cell? w7 (a4.add 5) = some (Value.int .i64 n9) ∧
    (Value.int .i64 n9) = (Value.int .i64 n5)) ∧
    BIf (!decide (n8 = n5)) (
      K (Value.bool false) w7) (
      needSome w2 fun a10 =>
      ∃ n11 : Int, World.cell? w7 (a10.add 4) = some (Value.int .i64 n11) ∧
      Calls Tryz.prog fn_unit_Unit_Trimmed ⟨[(Value.pointer u1)]⟩ w7 fun e12 w13 =>
      ∃ n14 : Int, e12 = .returned (Value.int .i64 n14) ∧
      (∃ n15 : Int, World.cell? w13 (a10.add 4) = some (Value.int .i64 n15) ∧
      (Value.int .i64 n15) = (Value.int .i64 n11)) ∧
      BIf (!decide (n14 = n11)) (
        K (Value.bool false) w13) (
        Calls Tryz.prog fn_unit_Unit_Tail ⟨[(Value.pointer u1)]⟩ w13 fun e16 w17 =>
        ∃ n18 : Int, e16 = .returned (Value.int .i64 n18) ∧
        Calls Tryz.prog fn_tidewaterref09_Unit_Tail ⟨[(Value.pointer w2)]⟩ w17 fun e19 w20 =>
        ∃ n21 : Int, e19 = .returned (Value.int .i64 n21) ∧
        BIf (!decide (n18 = n21)) (
          K (Value.bool false) w20) (
          needSome w2 fun a22 =>
          ∃ p23 : Option Addr, World.cell? w20 a22 = some (Value.pointer p23) ∧
          needSome p23 fun a24 =>
          ∃ n25 : Int, World.cell? w20 a24 = some (Value.int .i64 n25) ∧
          needSome w2 fun a26 =>
          ∃ p27 : Option Addr, World.cell? w20 a26 = some (Value.pointer p27) ∧
          needSome p27 fun a28 =>
          ∃ s29 : Slc, World.cell? w20 (a28.add 1) = some (Slc.v s29) ∧
          inR .i64 (n25 - ((s29.l : Nat) : Int)) ∧
          Calls Tryz.prog fn_unit_Unit_Free ⟨[(Value.pointer u1)]⟩ w20 fun e30 w31 =>
          ∃ n32 : Int, e30 = .returned (Value.int .i64 n32) ∧
          (∃ s33 : Slc, World.cell? w31 (a28.add 1) = some (Slc.v s33) ∧
          (Slc.v s33) = (Slc.v s29)) ∧
          (∃ p34 : Option Addr, World.cell? w31 a26 = some (Value.pointer p34) ∧
          (Value.pointer p34) = (Value.pointer p27)) ∧
          (∃ n35 : Int, World.cell? w31 a24 = some (Value.int .i64 n35) ∧
          (Value.int .i64 n35) = (Value.int .i64 n25)) ∧
          (∃ p36 : Option Addr, World.cell? w31 a22 = some (Value.pointer p36) ∧
          (Value.pointer p36) = (Value.pointer p23)) ∧
          BIf (!decide (n32 = (n25 - ((s29.l : Nat) : Int)))) (
            K (Value.bool false) w31) (
            J3 w31))))) ∧ (
  ∀ w37 : World, J3 w37 → ∀ u38 u39 u40 u41 u42 u43 u44 u45 u46 u47 u48 u49 u50 u51 u52 u53 u54 u55 u56 u57 u58 u59 u60 u61 u62 u63 u64 u65 u66 u67 u68 u69 u70 u71 u72 u73 u74 u75 u76 u77 u78 u79 u80 u81 u82 : Value,
    ∃ (I83 : (Int) → World → Prop) (mu84 : (Int) → World → Nat), I83 ((0 : Int)) w37 ∧ (
    ∀ i85 : Int, ∀ w86 : World, I83 i85 w86 → ∀ u87 u88 u89 u90 u91 u92 u93 u94 u95 u96 u97 u98 u99 u100 u101 u102 u103 u104 u105 u106 u107 u108 u109 u110 u111 u112 u113 u114 u115 u116 u117 u118 u119 u120 u121 u122 u123 u124 u125 u126 u127 u128 u129 u130 u131 u132 u133 u134 u135 : Value,
      BIf (decide (i85 < (14 : Int))) (
        needSome w2 fun a136 =>
        ∃ n137 : Int, World.cell? w86 (a136.add 5) = some (Value.int .i64 n137) ∧
        Calls Tryz.prog fn_unit_Unit_Read ⟨[(Value.pointer u1), (Value.int .i64 n137), (Value.int .i64 i85)]⟩ w86 fun e138 w139 =>
        ∃ s140 : Slc, ∃ e141 : Value, e138 = .returned (Value.tuple ⟨[(Slc.v s140), e141]⟩) ∧
        needSome w2 fun a142 =>
        ∃ n143 : Int, World.cell? w139 (a142.add 5) = some (Value.int .i64 n143) ∧
        Calls Tryz.prog fn_tidewaterref09_Unit_Read ⟨[(Value.pointer w2), (Value.int .i64 n143), (Value.int .i64 i85)]⟩ w139 fun e144 w145 =>
        ∃ s146 : Slc, ∃ n147 : Int, e144 = .returned (Value.tuple ⟨[(Slc.v s146), (Value.int .i64 n147)]⟩) ∧
        ∃ t148 : List UInt8, bytesAt w145 s140 t148 ∧
        ∃ t149 : List UInt8, bytesAt w145 s146 t149 ∧
        BIf (!decide (t148 = t149)) (
          K (Value.bool false) w145) (
          Calls Tryz.prog fn_tidewaternum_Num ⟨[e141]⟩ w145 fun e150 w151 =>
          ∃ n152 : Int, e150 = .returned (Value.int .i64 n152) ∧
          BIf (!decide (n152 = n147)) (
            K (Value.bool false) w151) (
            Calls Tryz.prog fn_unit_Unit_Has ⟨[(Value.pointer u1), (Value.int .i64 i85)]⟩ w151 fun e153 w154 =>
            ∃ b155 : Bool, e153 = .returned (Value.bool b155) ∧
            Calls Tryz.prog fn_tidewaterref09_Unit_Has ⟨[(Value.pointer w2), (Value.int .i64 i85)]⟩ w154 fun e156 w157 =>
            ∃ b158 : Bool, e156 = .returned (Value.bool b158) ∧
            BIf (!(b155 == b158)) (
              K (Value.bool false) w157) (
              inR .i64 (i85 + (1 : Int)) ∧
              (I83 ((i85 + (1 : Int))) w157 ∧ mu84 ((i85 + (1 : Int))) w157 < mu84 i85 w86))))) (
        K (Value.bool true) w86)))

theorem tidewaterlaw09_same_eq (u1 : Option Addr) (w2 : Option Addr) (w : World) (K : Value → World → Prop) : tidewaterlaw09_same u1 w2 w K = denF Tryz.prog callB Tryz.f8 (.two .none (.cut [] [4, 10, 11, 12, 13, 14, 15, 16, 17, 18, 19, 20, 21, 22, 23, 24, 25, 26, 27, 28, 29, 30, 31, 32, 33, 34, 35, 36, 37, 38, 39, 40, 41, 42, 43, 44, 45, 46, 47, 48, 49, 50, 51, 52, 53] .none (.two (.two .none (.one (.loop [(54, (Sh.int .i64))] [4, 5, 6, 7, 8, 9, 55, 56, 57, 58, 59, 60, 61, 62, 63, 64, 65, 66, 67, 68, 69, 70, 71, 72, 73, 74, 75, 76, 77, 78, 79, 80, 81, 82, 83, 84, 85, 86, 87, 88, 89, 90, 91, 92, 93, 94, 95, 96, 97] .none))) .none))) [(Value.pointer u1), (Value.pointer w2)] w K := by kernel_rfl
theorem tidewaterlaw09_same_ok (u1 : Option Addr) (w2 : Option Addr) {w : World} {R : Ending → World → Prop} (h : tidewaterlaw09_same u1 w2 w fun v w' => R (.returned v) w') : Calls Tryz.prog fn_tidewaterlaw09_same ⟨[(Value.pointer u1), (Value.pointer w2)]⟩ w R :=
  calls_of_den callB_ok mixed Tryz.func8 (tidewaterlaw09_same_eq u1 w2 w _ ▸ h)

/-- tidewater/tidewaterlaw09.told -/
def tidewaterlaw09_told (u1 : Option Addr) (w2 : Option Addr) (w : World) (K : Value → World → Prop) : Prop :=
  ∃ J3 : World → Prop,
  (
    needSome w2 fun a4 =>
    ∃ n5 : Int, World.cell? (World.drew w) (a4.add 5) = some (Value.int .i64 n5) ∧
    Calls Tryz.prog fn_unit_Unit_Epoch ⟨[(Value.pointer u1)]⟩ (World.drew w) fun e6 w7 =>
    ∃ n8 : Int, e6 = .returned (Value.int .i64 n8) ∧
    (∃ n9 : Int, World.cell? w7 (a4.add 5) = some (Value.int .i64 n9) ∧
    (Value.int .i64 n9) = (Value.int .i64 n5)) ∧
    BIf (!decide (n8 = n5)) (
      K (Value.bool false) w7) (
      needSome w2 fun a10 =>
      ∃ n11 : Int, World.cell? w7 (a10.add 4) = some (Value.int .i64 n11) ∧
      Calls Tryz.prog fn_unit_Unit_Trimmed ⟨[(Value.pointer u1)]⟩ w7 fun e12 w13 =>
      ∃ n14 : Int, e12 = .returned (Value.int .i64 n14) ∧
      (∃ n15 : Int, World.cell? w13 (a10.add 4) = some (Value.int .i64 n15) ∧
      (Value.int .i64 n15) = (Value.int .i64 n11)) ∧
      BIf (!decide (n14 = n11)) (
        K (Value.bool false) w13) (
        Calls Tryz.prog fn_unit_Unit_Tail ⟨[(Value.pointer u1)]⟩ w13 fun e16 w17 =>
        ∃ n18 : Int, e16 = .returned (Value.int .i64 n18) ∧
        Calls Tryz.prog fn_tidewaterref09_Unit_Tail ⟨[(Value.pointer w2)]⟩ w17 fun e19 w20 =>
        ∃ n21 : Int, e19 = .returned (Value.int .i64 n21) ∧
        BIf (!decide (n18 = n21)) (
          K (Value.bool false) w20) (
          J3 w20)))) ∧ (
  ∀ w22 : World, J3 w22 → ∀ u23 u24 u25 u26 u27 u28 u29 u30 u31 u32 u33 u34 u35 u36 u37 u38 u39 u40 u41 u42 u43 u44 u45 u46 : Value,
    ∃ (I47 : (Int) → World → Prop) (mu48 : (Int) → World → Nat), I47 ((0 : Int)) w22 ∧ (
    ∀ i49 : Int, ∀ w50 : World, I47 i49 w50 → ∀ u51 u52 u53 u54 u55 u56 u57 u58 u59 u60 u61 u62 u63 u64 u65 u66 u67 u68 u69 u70 u71 u72 u73 u74 u75 u76 u77 u78 u79 u80 u81 u82 u83 u84 u85 u86 u87 u88 u89 u90 : Value,
      BIf (decide (i49 < (14 : Int))) (
        needSome w2 fun a91 =>
        ∃ n92 : Int, World.cell? w50 (a91.add 5) = some (Value.int .i64 n92) ∧
        Calls Tryz.prog fn_unit_Unit_Read ⟨[(Value.pointer u1), (Value.int .i64 n92), (Value.int .i64 i49)]⟩ w50 fun e93 w94 =>
        ∃ s95 : Slc, ∃ e96 : Value, e93 = .returned (Value.tuple ⟨[(Slc.v s95), e96]⟩) ∧
        needSome w2 fun a97 =>
        ∃ n98 : Int, World.cell? w94 (a97.add 5) = some (Value.int .i64 n98) ∧
        Calls Tryz.prog fn_tidewaterref09_Unit_Read ⟨[(Value.pointer w2), (Value.int .i64 n98), (Value.int .i64 i49)]⟩ w94 fun e99 w100 =>
        ∃ s101 : Slc, ∃ n102 : Int, e99 = .returned (Value.tuple ⟨[(Slc.v s101), (Value.int .i64 n102)]⟩) ∧
        ∃ t103 : List UInt8, bytesAt w100 s95 t103 ∧
        ∃ t104 : List UInt8, bytesAt w100 s101 t104 ∧
        BIf (!decide (t103 = t104)) (
          K (Value.bool false) w100) (
          Calls Tryz.prog fn_tidewaternum_Num ⟨[e96]⟩ w100 fun e105 w106 =>
          ∃ n107 : Int, e105 = .returned (Value.int .i64 n107) ∧
          BIf (!decide (n107 = n102)) (
            K (Value.bool false) w106) (
            inR .i64 (i49 + (1 : Int)) ∧
            (I47 ((i49 + (1 : Int))) w106 ∧ mu48 ((i49 + (1 : Int))) w106 < mu48 i49 w50)))) (
        K (Value.bool true) w50)))

theorem tidewaterlaw09_told_eq (u1 : Option Addr) (w2 : Option Addr) (w : World) (K : Value → World → Prop) : tidewaterlaw09_told u1 w2 w K = denF Tryz.prog callB Tryz.f20 (.two .none (.cut [] [4, 10, 11, 12, 13, 14, 15, 16, 17, 18, 19, 20, 21, 22, 23, 24, 25, 26, 27, 28, 29, 30, 31, 32] .none (.two (.two .none (.one (.loop [(33, (Sh.int .i64))] [4, 5, 6, 7, 8, 9, 34, 35, 36, 37, 38, 39, 40, 41, 42, 43, 44, 45, 46, 47, 48, 49, 50, 51, 52, 53, 54, 55, 56, 57, 58, 59, 60, 61, 62, 63, 64, 65, 66, 67] .none))) .none))) [(Value.pointer u1), (Value.pointer w2)] w K := by kernel_rfl
theorem tidewaterlaw09_told_ok (u1 : Option Addr) (w2 : Option Addr) {w : World} {R : Ending → World → Prop} (h : tidewaterlaw09_told u1 w2 w fun v w' => R (.returned v) w') : Calls Tryz.prog fn_tidewaterlaw09_told ⟨[(Value.pointer u1), (Value.pointer w2)]⟩ w R :=
  calls_of_den callB_ok mixed Tryz.func20 (tidewaterlaw09_told_eq u1 w2 w _ ▸ h)

/-- tidewater/tidewaterlaw09.do -/
def tidewaterlaw09_do (d1 : Option Addr) (u2 : Option Addr) (w3 : Option Addr) (a4 : Int) (a5 : Int) (a6 : Int) (a7 : Int) (a8 : Int) (w : World) (K : Value → World → Prop) : Prop :=
  newS w (.cells ⟨[(Value.int .i64 a4), (Value.int .i64 a5), (Value.int .i64 a6), (Value.int .i64 a7), (Value.int .u8 a8)]⟩ 30) fun r9 w10 =>
  ∃ n11 : Int, World.cell? w10 (⟨r9, 0, none⟩ : Addr) = some (Value.int .i64 n11) ∧
  BIf (decide (n11 = (0 : Int))) (
    ∃ n12 : Int, World.cell? (World.drew w10) (⟨r9, 1, none⟩ : Addr) = some (Value.int .i64 n12) ∧
    ∃ n13 : Int, World.cell? (World.drew w10) (⟨r9, 2, none⟩ : Addr) = some (Value.int .i64 n13) ∧
    ∃ n14 : Int, ∃ n15 : Int, ∃ n16 : Int, ∃ n17 : Int, ∃ n18 : Int, rowAt (World.drew w10) (⟨r9, 0, none⟩ : Addr) 0 [(Value.int .i64 n14), (Value.int .i64 n15), (Value.int .i64 n16), (Value.int .i64 n17), (Value.int .u8 n18)] ∧
    ∃ n19 : Int, World.cell? (World.drew w10) (⟨r9, 1, none⟩ : Addr) = some (Value.int .i64 n19) ∧
    ∃ n20 : Int, World.cell? (World.drew w10) (⟨r9, 2, none⟩ : Addr) = some (Value.int .i64 n20) ∧
    ∃ n21 : Int, ∃ n22 : Int, ∃ n23 : Int, ∃ n24 : Int, ∃ n25 : Int, rowAt (World.drew w10) (⟨r9, 0, none⟩ : Addr) 0 [(Value.int .i64 n21), (Value.int .i64 n22), (Value.int .i64 n23), (Value.int .i64 n24), (Value.int .u8 n25)] ∧
    Calls Tryz.prog fn_tidewaterlaw09_Act_page ⟨[(Value.agg ⟨[(Value.int .i64 n14), (Value.int .i64 n15), (Value.int .i64 n16), (Value.int .i64 n17), (Value.int .u8 n18)]⟩)]⟩ (World.drew w10) fun e26 w27 =>
    ∃ s28 : Slc, e26 = .returned (Slc.v s28) ∧
    (∃ n29 : Int, ∃ n30 : Int, ∃ n31 : Int, ∃ n32 : Int, ∃ n33 : Int, rowAt w27 (⟨r9, 0, none⟩ : Addr) 0 [(Value.int .i64 n29), (Value.int .i64 n30), (Value.int .i64 n31), (Value.int .i64 n32), (Value.int .u8 n33)] ∧
    (Value.agg ⟨[(Value.int .i64 n29), (Value.int .i64 n30), (Value.int .i64 n31), (Value.int .i64 n32), (Value.int .u8 n33)]⟩) = (Value.agg ⟨[(Value.int .i64 n21), (Value.int .i64 n22), (Value.int .i64 n23), (Value.int .i64 n24), (Value.int .u8 n25)]⟩)) ∧
    (∃ n34 : Int, World.cell? w27 (⟨r9, 2, none⟩ : Addr) = some (Value.int .i64 n34) ∧
    (Value.int .i64 n34) = (Value.int .i64 n20)) ∧
    (∃ n35 : Int, World.cell? w27 (⟨r9, 1, none⟩ : Addr) = some (Value.int .i64 n35) ∧
    (Value.int .i64 n35) = (Value.int .i64 n19)) ∧
    (∃ n36 : Int, World.cell? w27 (⟨r9, 2, none⟩ : Addr) = some (Value.int .i64 n36) ∧
    (Value.int .i64 n36) = (Value.int .i64 n13)) ∧
    (∃ n37 : Int, World.cell? w27 (⟨r9, 1, none⟩ : Addr) = some (Value.int .i64 n37) ∧
    (Value.int .i64 n37) = (Value.int .i64 n12)) ∧
    Calls Tryz.prog fn_unit_Unit_Write ⟨[(Value.pointer u2), (Value.int .i64 n12), (Value.int .i64 n13), (Slc.v s28)]⟩ w27 fun e38 w39 =>
    ∃ e40 : Value, e38 = .returned e40 ∧
    (∃ n41 : Int, ∃ n42 : Int, ∃ n43 : Int, ∃ n44 : Int, ∃ n45 : Int, rowAt w39 (⟨r9, 0, none⟩ : Addr) 0 [(Value.int .i64 n41), (Value.int .i64 n42), (Value.int .i64 n43), (Value.int .i64 n44), (Value.int .u8 n45)] ∧
    (Value.agg ⟨[(Value.int .i64 n41), (Value.int .i64 n42), (Value.int .i64 n43), (Value.int .i64 n44), (Value.int .u8 n45)]⟩) = (Value.agg ⟨[(Value.int .i64 n21), (Value.int .i64 n22), (Value.int .i64 n23), (Value.int .i64 n24), (Value.int .u8 n25)]⟩)) ∧
    (∃ n46 : Int, World.cell? w39 (⟨r9, 2, none⟩ : Addr) = some (Value.int .i64 n46) ∧
    (Value.int .i64 n46) = (Value.int .i64 n20)) ∧
    (∃ n47 : Int, World.cell? w39 (⟨r9, 1, none⟩ : Addr) = some (Value.int .i64 n47) ∧
    (Value.int .i64 n47) = (Value.int .i64 n19)) ∧
    Calls Tryz.prog fn_tidewaternum_Num ⟨[e40]⟩ w39 fun e48 w49 =>
    ∃ n50 : Int, e48 = .returned (Value.int .i64 n50) ∧
    (∃ n51 : Int, ∃ n52 : Int, ∃ n53 : Int, ∃ n54 : Int, ∃ n55 : Int, rowAt w49 (⟨r9, 0, none⟩ : Addr) 0 [(Value.int .i64 n51), (Value.int .i64 n52), (Value.int .i64 n53), (Value.int .i64 n54), (Value.int .u8 n55)] ∧
    (Value.agg ⟨[(Value.int .i64 n51), (Value.int .i64 n52), (Value.int .i64 n53), (Value.int .i64 n54), (Value.int .u8 n55)]⟩) = (Value.agg ⟨[(Value.int .i64 n21), (Value.int .i64 n22), (Value.int .i64 n23), (Value.int .i64 n24), (Value.int .u8 n25)]⟩)) ∧
    (∃ n56 : Int, World.cell? w49 (⟨r9, 2, none⟩ : Addr) = some (Value.int .i64 n56) ∧
    (Value.int .i64 n56) = (Value.int .i64 n20)) ∧
    (∃ n57 : Int, World.cell? w49 (⟨r9, 1, none⟩ : Addr) = some (Value.int .i64 n57) ∧
    (Value.int .i64 n57) = (Value.int .i64 n19)) ∧
    Calls Tryz.prog fn_tidewaterlaw09_Act_page ⟨[(Value.agg ⟨[(Value.int .i64 n21), (Value.int .i64 n22), (Value.int .i64 n23), (Value.int .i64 n24), (Value.int .u8 n25)]⟩)]⟩ w49 fun e58 w59 =>
    ∃ s60 : Slc, e58 = .returned (Slc.v s60) ∧
    (∃ n61 : Int, World.cell? w59 (⟨r9, 2, none⟩ : Addr) = some (Value.int .i64 n61) ∧
    (Value.int .i64 n61) = (Value.int .i64 n20)) ∧
    (∃ n62 : Int, World.cell? w59 (⟨r9, 1, none⟩ : Addr) = some (Value.int .i64 n62) ∧
    (Value.int .i64 n62) = (Value.int .i64 n19)) ∧
    Calls Tryz.prog fn_tidewaterref09_Unit_Write ⟨[(Value.pointer w3), (Value.int .i64 n19), (Value.int .i64 n20), (Slc.v s60)]⟩ w59 fun e63 w64 =>
    ∃ n65 : Int, e63 = .returned (Value.int .i64 n65) ∧
    K (Value.tuple ⟨[(Value.pointer u2), (Value.bool (decide (n50 = n65)))]⟩) w64) (
    BIf (decide (n11 = (1 : Int))) (
      ∃ n66 : Int, World.cell? w10 (⟨r9, 1, none⟩ : Addr) = some (Value.int .i64 n66) ∧
      ∃ n67 : Int, World.cell? w10 (⟨r9, 2, none⟩ : Addr) = some (Value.int .i64 n67) ∧
      Calls Tryz.prog fn_unit_Unit_Read ⟨[(Value.pointer u2), (Value.int .i64 n66), (Value.int .i64 n67)]⟩ w10 fun e68 w69 =>
      ∃ s70 : Slc, ∃ e71 : Value, e68 = .returned (Value.tuple ⟨[(Slc.v s70), e71]⟩) ∧
      ∃ n72 : Int, World.cell? w69 (⟨r9, 1, none⟩ : Addr) = some (Value.int .i64 n72) ∧
      ∃ n73 : Int, World.cell? w69 (⟨r9, 2, none⟩ : Addr) = some (Value.int .i64 n73) ∧
      Calls Tryz.prog fn_tidewaterref09_Unit_Read ⟨[(Value.pointer w3), (Value.int .i64 n72), (Value.int .i64 n73)]⟩ w69 fun e74 w75 =>
      ∃ s76 : Slc, ∃ n77 : Int, e74 = .returned (Value.tuple ⟨[(Slc.v s76), (Value.int .i64 n77)]⟩) ∧
      ∃ t78 : List UInt8, bytesAt w75 s70 t78 ∧
      ∃ t79 : List UInt8, bytesAt w75 s76 t79 ∧
      BIf (decide (t78 = t79)) (
        Calls Tryz.prog fn_tidewaternum_Num ⟨[e71]⟩ w75 fun e80 w81 =>
        ∃ n82 : Int, e80 = .returned (Value.int .i64 n82) ∧
        K (Value.tuple ⟨[(Value.pointer u2), (Value.bool (decide (n82 = n77)))]⟩) w81) (
        K (Value.tuple ⟨[(Value.pointer u2), (Value.bool false)]⟩) w75)) (
      BIf (decide (n11 = (2 : Int))) (
        ∃ n83 : Int, World.cell? (World.drew w10) (⟨r9, 1, none⟩ : Addr) = some (Value.int .i64 n83) ∧
        ∃ n84 : Int, World.cell? (World.drew w10) (⟨r9, 2, none⟩ : Addr) = some (Value.int .i64 n84) ∧
        ∃ n85 : Int, World.cell? (World.drew w10) (⟨r9, 1, none⟩ : Addr) = some (Value.int .i64 n85) ∧
        ∃ n86 : Int, World.cell? (World.drew w10) (⟨r9, 2, none⟩ : Addr) = some (Value.int .i64 n86) ∧
        Calls Tryz.prog fn_unit_Unit_Trim ⟨[(Value.pointer u2), (Value.int .i64 n83), (Value.int .i64 n84)]⟩ (World.drew w10) fun e87 w88 =>
        ∃ e89 : Value, e87 = .returned e89 ∧
        (∃ n90 : Int, World.cell? w88 (⟨r9, 2, none⟩ : Addr) = some (Value.int .i64 n90) ∧
        (Value.int .i64 n90) = (Value.int .i64 n86)) ∧
        (∃ n91 : Int, World.cell? w88 (⟨r9, 1, none⟩ : Addr) = some (Value.int .i64 n91) ∧
        (Value.int .i64 n91) = (Value.int .i64 n85)) ∧
        Calls Tryz.prog fn_tidewaternum_Num ⟨[e89]⟩ w88 fun e92 w93 =>
        ∃ n94 : Int, e92 = .returned (Value.int .i64 n94) ∧
        (∃ n95 : Int, World.cell? w93 (⟨r9, 2, none⟩ : Addr) = some (Value.int .i64 n95) ∧
        (Value.int .i64 n95) = (Value.int .i64 n86)) ∧
        (∃ n96 : Int, World.cell? w93 (⟨r9, 1, none⟩ : Addr) = some (Value.int .i64 n96) ∧
        (Value.int .i64 n96) = (Value.int .i64 n85)) ∧
        Calls Tryz.prog fn_tidewaterref09_Unit_Trim ⟨[(Value.pointer w3), (Value.int .i64 n85), (Value.int .i64 n86)]⟩ w93 fun e97 w98 =>
        ∃ n99 : Int, e97 = .returned (Value.int .i64 n99) ∧
        K (Value.tuple ⟨[(Value.pointer u2), (Value.bool (decide (n94 = n99)))]⟩) w98) (
        BIf (decide (n11 = (3 : Int))) (
          ∃ n100 : Int, World.cell? w10 (⟨r9, 1, none⟩ : Addr) = some (Value.int .i64 n100) ∧
          Calls Tryz.prog fn_unit_Unit_Seal ⟨[(Value.pointer u2), (Value.int .i64 n100)]⟩ w10 fun e101 w102 =>
          ∃ n103 : Int, ∃ e104 : Value, e101 = .returned (Value.tuple ⟨[(Value.int .i64 n103), e104]⟩) ∧
          ∃ n105 : Int, World.cell? w102 (⟨r9, 1, none⟩ : Addr) = some (Value.int .i64 n105) ∧
          Calls Tryz.prog fn_tidewaterref09_Unit_Seal ⟨[(Value.pointer w3), (Value.int .i64 n105)]⟩ w102 fun e106 w107 =>
          ∃ n108 : Int, ∃ n109 : Int, e106 = .returned (Value.tuple ⟨[(Value.int .i64 n108), (Value.int .i64 n109)]⟩) ∧
          BIf (decide (n103 = n108)) (
            Calls Tryz.prog fn_tidewaternum_Num ⟨[e104]⟩ w107 fun e110 w111 =>
            ∃ n112 : Int, e110 = .returned (Value.int .i64 n112) ∧
            K (Value.tuple ⟨[(Value.pointer u2), (Value.bool (decide (n112 = n109)))]⟩) w111) (
            K (Value.tuple ⟨[(Value.pointer u2), (Value.bool false)]⟩) w107)) (
          Calls Tryz.prog fn_unit_Open ⟨[(Value.pointer d1)]⟩ w10 fun e113 w114 =>
          ∃ p115 : Option Addr, ∃ e116 : Value, e113 = .returned (Value.tuple ⟨[(Value.pointer p115), e116]⟩) ∧
          isI e116 ∧
          BIf (isNilI e116) (
            K (Value.tuple ⟨[(Value.pointer p115), (Value.bool (!Option.isNone (p115 : Option Addr)))]⟩) w114) (
            K (Value.tuple ⟨[(Value.pointer p115), (Value.bool false)]⟩) w114)))))

theorem tidewaterlaw09_do_eq (d1 : Option Addr) (u2 : Option Addr) (w3 : Option Addr) (a4 : Int) (a5 : Int) (a6 : Int) (a7 : Int) (a8 : Int) (w : World) (K : Value → World → Prop) : tidewaterlaw09_do d1 u2 w3 a4 a5 a6 a7 a8 w K = denF Tryz.prog callB Tryz.f7 .none [(Value.pointer d1), (Value.pointer u2), (Value.pointer w3), (Value.agg ⟨[(Value.int .i64 a4), (Value.int .i64 a5), (Value.int .i64 a6), (Value.int .i64 a7), (Value.int .u8 a8)]⟩)] w K := by kernel_rfl
theorem tidewaterlaw09_do_ok (d1 : Option Addr) (u2 : Option Addr) (w3 : Option Addr) (a4 : Int) (a5 : Int) (a6 : Int) (a7 : Int) (a8 : Int) {w : World} {R : Ending → World → Prop} (h : tidewaterlaw09_do d1 u2 w3 a4 a5 a6 a7 a8 w fun v w' => R (.returned v) w') : Calls Tryz.prog fn_tidewaterlaw09_do ⟨[(Value.pointer d1), (Value.pointer u2), (Value.pointer w3), (Value.agg ⟨[(Value.int .i64 a4), (Value.int .i64 a5), (Value.int .i64 a6), (Value.int .i64 a7), (Value.int .u8 a8)]⟩)]⟩ w R :=
  calls_of_den callB_ok mixed Tryz.func7 (tidewaterlaw09_do_eq d1 u2 w3 a4 a5 a6 a7 a8 w _ ▸ h)

/-- tidewater/tidewaterlaw09.begin -/
def tidewaterlaw09_begin (n1 : Int) (w : World) (K : Value → World → Prop) : Prop :=
  0 ≤ (IntKind.wrap .u64 n1) ∧ 0 < (4 : Int) ∧
  inR .i64 ((1 : Int) + (IntKind.wrap .i64 ((IntKind.wrap .u64 n1) % (4 : Int)))) ∧
  inR .i64 ((64 : Int) * ((1 : Int) + (IntKind.wrap .i64 ((IntKind.wrap .u64 n1) % (4 : Int))))) ∧
  Calls Tryz.prog fn_disk_New ⟨[(Value.int .i64 ((64 : Int) * ((1 : Int) + (IntKind.wrap .i64 ((IntKind.wrap .u64 n1) % (4 : Int))))))]⟩ w fun e2 w3 =>
  ∃ p4 : Option Addr, ∃ e5 : Value, e2 = .returned (Value.tuple ⟨[(Value.pointer p4), e5]⟩) ∧
  isI e5 ∧
  BIf (!isNilI e5) (
    K (Value.tuple ⟨[(Value.pointer none), (Value.pointer none), (Value.pointer none)]⟩) w3) (
    Calls Tryz.prog fn_unit_Open ⟨[(Value.pointer p4)]⟩ w3 fun e6 w7 =>
    ∃ p8 : Option Addr, ∃ e9 : Value, e6 = .returned (Value.tuple ⟨[(Value.pointer p8), e9]⟩) ∧
    isI e9 ∧
    BIf (!isNilI e9) (
      K (Value.tuple ⟨[(Value.pointer none), (Value.pointer none), (Value.pointer none)]⟩) w7) (
      Calls Tryz.prog fn_tidewaterref09_New ⟨[(Value.int .i64 ((1 : Int) + (IntKind.wrap .i64 ((IntKind.wrap .u64 n1) % (4 : Int)))))]⟩ w7 fun e10 w11 =>
      ∃ p12 : Option Addr, e10 = .returned (Value.pointer p12) ∧
      K (Value.tuple ⟨[(Value.pointer p4), (Value.pointer p8), (Value.pointer p12)]⟩) w11))

theorem tidewaterlaw09_begin_eq (n1 : Int) (w : World) (K : Value → World → Prop) : tidewaterlaw09_begin n1 w K = denF Tryz.prog callB Tryz.f6 .none [(Value.int .i64 n1)] w K := by kernel_rfl
theorem tidewaterlaw09_begin_ok (n1 : Int) {w : World} {R : Ending → World → Prop} (h : tidewaterlaw09_begin n1 w fun v w' => R (.returned v) w') : Calls Tryz.prog fn_tidewaterlaw09_begin ⟨[(Value.int .i64 n1)]⟩ w R :=
  calls_of_den callB_ok mixed Tryz.func6 (tidewaterlaw09_begin_eq n1 w _ ▸ h)

/-- tidewater/tidewaterlaw09.UnitPlays -/
def tidewaterlaw09_UnitPlays (n1 : Int) (list2 : Slc) (w : World) (K : Value → World → Prop) : Prop :=
  Calls Tryz.prog fn_tidewaterlaw09_alive ⟨[]⟩ w fun e3 w4 =>
  ∃ b5 : Bool, e3 = .returned (Value.bool b5) ∧
  BIf (!b5) (
    K (Value.bool false) w4) (
    BIf (decide ((60 : Int) < ((list2.l : Nat) : Int))) (
      K (Value.bool true) w4) (
      Calls Tryz.prog fn_tidewaterlaw09_begin ⟨[(Value.int .i64 n1)]⟩ w4 fun e6 w7 =>
      ∃ p8 : Option Addr, ∃ p9 : Option Addr, ∃ p10 : Option Addr, e6 = .returned (Value.tuple ⟨[(Value.pointer p8), (Value.pointer p9), (Value.pointer p10)]⟩) ∧
      ∃ J11 : World → Prop,
      (
        BIf (Option.isNone (p8 : Option Addr)) (
          K (Value.bool false) w7) (
          BIf (Option.isNone (p9 : Option Addr)) (
            K (Value.bool false) w7) (
            J11 w7))) ∧ (
      ∀ w12 : World, J11 w12 → ∀ u13 u14 u15 u16 u17 u18 u19 : Value,
        ∃ (I20 : (Option Addr) → (Int) → World → Prop) (mu21 : (Option Addr) → (Int) → World → Nat), I20 (p9) ((0 : Int)) w12 ∧ (
        ∀ u22 : Option Addr, ∀ i23 : Int, ∀ w24 : World, I20 u22 i23 w24 → ∀ u25 u26 u27 u28 u29 u30 u31 u32 u33 u34 u35 u36 u37 u38 u39 u40 u41 u42 u43 u44 u45 u46 u47 : Value,
          BIf (decide (i23 < ((list2.l : Nat) : Int))) (
            needSome list2.p fun a48 =>
            0 ≤ i23 ∧ i23 < ((list2.l : Nat) : Int) ∧
            ∃ n49 : Int, ∃ n50 : Int, ∃ n51 : Int, ∃ n52 : Int, ∃ n53 : Int, rowAt w24 (Addr.add a48 ((Int.toNat i23) * 5)) 0 [(Value.int .i64 n49), (Value.int .i64 n50), (Value.int .i64 n51), (Value.int .i64 n52), (Value.int .u8 n53)] ∧
            newS w24 (.cells ⟨[(Value.int .i64 (0 : Int)), (Value.int .i64 (0 : Int)), (Value.int .i64 (0 : Int)), (Value.int .i64 (0 : Int)), (Value.int .u8 (0 : Int))]⟩ 30) fun r54 w55 =>
            canW w55 (⟨r54, 0, none⟩ : Addr) 5 ∧ ∀ w56 : World, w56 = setCells w55 (⟨r54, 0, none⟩ : Addr) 0 [(Value.int .i64 n49), (Value.int .i64 n50), (Value.int .i64 n51), (Value.int .i64 n52), (Value.int .u8 n53)] →
            ∃ n57 : Int, ∃ n58 : Int, ∃ n59 : Int, ∃ n60 : Int, ∃ n61 : Int, rowAt w56 (⟨r54, 0, none⟩ : Addr) 0 [(Value.int .i64 n57), (Value.int .i64 n58), (Value.int .i64 n59), (Value.int .i64 n60), (Value.int .u8 n61)] ∧
            Calls Tryz.prog fn_tidewaterlaw09_do ⟨[(Value.pointer p8), (Value.pointer u22), (Value.pointer p10), (Value.agg ⟨[(Value.int .i64 n57), (Value.int .i64 n58), (Value.int .i64 n59), (Value.int .i64 n60), (Value.int .u8 n61)]⟩)]⟩ w56 fun e62 w63 =>
            ∃ p64 : Option Addr, ∃ b65 : Bool, e62 = .returned (Value.tuple ⟨[(Value.pointer p64), (Value.bool b65)]⟩) ∧
            BIf (!b65) (
              K (Value.bool false) w63) (
              Calls Tryz.prog fn_tidewaterlaw09_same ⟨[(Value.pointer p64), (Value.pointer p10)]⟩ w63 fun e66 w67 =>
              ∃ b68 : Bool, e66 = .returned (Value.bool b68) ∧
              BIf (!b68) (
                K (Value.bool false) w67) (
                inR .i64 (i23 + (1 : Int)) ∧
                (I20 (p64) ((i23 + (1 : Int))) w67 ∧ mu21 (p64) ((i23 + (1 : Int))) w67 < mu21 u22 i23 w24)))) (
            Calls Tryz.prog fn_unit_Open ⟨[(Value.pointer p8)]⟩ w24 fun e69 w70 =>
            ∃ p71 : Option Addr, ∃ e72 : Value, e69 = .returned (Value.tuple ⟨[(Value.pointer p71), e72]⟩) ∧
            isI e72 ∧
            BIf (isNilI e72) (
              BIf (!Option.isNone (p71 : Option Addr)) (
                Calls Tryz.prog fn_tidewaterlaw09_same ⟨[(Value.pointer p71), (Value.pointer p10)]⟩ w70 fun e73 w74 =>
                ∃ b75 : Bool, e73 = .returned (Value.bool b75) ∧
                K (Value.bool b75) w74) (
                K (Value.bool false) w70)) (
              K (Value.bool false) w70))))))

theorem tidewaterlaw09_UnitPlays_eq (n1 : Int) (list2 : Slc) (w : World) (K : Value → World → Prop) : tidewaterlaw09_UnitPlays n1 list2 w K = denF Tryz.prog callB Tryz.f3 (.two .none (.two .none (.two .none (.two .none (.cut [] [4, 24, 25, 26, 27, 28, 29] .none (.two (.two .none (.one (.loop [(6, Sh.ptr), (32, (Sh.int .i64))] [4, 9, 10, 33, 34, 35, 36, 37, 38, 39, 40, 41, 42, 43, 44, 45, 46, 47, 48, 49, 50, 51, 52] .none))) .none)))))) [(Value.int .i64 n1), (Slc.v list2)] w K := by kernel_rfl
theorem tidewaterlaw09_UnitPlays_ok (n1 : Int) (list2 : Slc) {w : World} {R : Ending → World → Prop} (h : tidewaterlaw09_UnitPlays n1 list2 w fun v w' => R (.returned v) w') : Calls Tryz.prog fn_tidewaterlaw09_UnitPlays ⟨[(Value.int .i64 n1), (Slc.v list2)]⟩ w R :=
  calls_of_den callB_ok mixed Tryz.func3 (tidewaterlaw09_UnitPlays_eq n1 list2 w _ ▸ h)

/-- tidewater/tidewaterlaw09.UnitPower -/
def tidewaterlaw09_UnitPower (n1 : Int) (list2 : Slc) (loss3 : Int) (loss4 : Int) (loss5 : Int) (loss6 : Int) (w : World) (K : Value → World → Prop) : Prop :=
  newS w (.cells ⟨[(Value.int .i64 loss3), (Value.int .u64 loss4), (Value.int .i64 loss5), (Value.int .i64 loss6)]⟩ 41) fun r7 w8 =>
  Calls Tryz.prog fn_tidewaterlaw09_alive ⟨[]⟩ w8 fun e9 w10 =>
  ∃ b11 : Bool, e9 = .returned (Value.bool b11) ∧
  BIf (!b11) (
    K (Value.bool false) w10) (
    ∃ J12 : World → Prop,
    (
      BIf (decide ((40 : Int) < ((list2.l : Nat) : Int))) (
        K (Value.bool true) w10) (
        BIf (decide (((list2.l : Nat) : Int) = (0 : Int))) (
          K (Value.bool true) w10) (
          J12 w10))) ∧ (
    ∀ w13 : World, J12 w13 → ∀ u14 u15 u16 u17 u18 u19 u20 u21 u22 : Value,
      Calls Tryz.prog fn_tidewaterlaw09_begin ⟨[(Value.int .i64 n1)]⟩ w13 fun e23 w24 =>
      ∃ p25 : Option Addr, ∃ p26 : Option Addr, ∃ p27 : Option Addr, e23 = .returned (Value.tuple ⟨[(Value.pointer p25), (Value.pointer p26), (Value.pointer p27)]⟩) ∧
      ∃ J28 : World → Prop,
      (
        BIf (Option.isNone (p25 : Option Addr)) (
          K (Value.bool false) w24) (
          BIf (Option.isNone (p26 : Option Addr)) (
            K (Value.bool false) w24) (
            J28 w24))) ∧ (
      ∀ w29 : World, J28 w29 → ∀ u30 u31 u32 u33 u34 u35 u36 : Value,
        inR .i64 (((list2.l : Nat) : Int) - (1 : Int)) ∧
        needSome list2.p fun a37 =>
        0 ≤ (((list2.l : Nat) : Int) - (1 : Int)) ∧ (((list2.l : Nat) : Int) - (1 : Int)) < ((list2.l : Nat) : Int) ∧
        ∃ n38 : Int, ∃ n39 : Int, ∃ n40 : Int, ∃ n41 : Int, ∃ n42 : Int, rowAt w29 (Addr.add a37 ((Int.toNat (((list2.l : Nat) : Int) - (1 : Int))) * 5)) 0 [(Value.int .i64 n38), (Value.int .i64 n39), (Value.int .i64 n40), (Value.int .i64 n41), (Value.int .u8 n42)] ∧
        newS w29 (.cells ⟨[(Value.int .i64 (0 : Int)), (Value.int .i64 (0 : Int)), (Value.int .i64 (0 : Int)), (Value.int .i64 (0 : Int)), (Value.int .u8 (0 : Int))]⟩ 30) fun r43 w44 =>
        canW w44 (⟨r43, 0, none⟩ : Addr) 5 ∧ ∀ w45 : World, w45 = setCells w44 (⟨r43, 0, none⟩ : Addr) 0 [(Value.int .i64 n38), (Value.int .i64 n39), (Value.int .i64 n40), (Value.int .i64 n41), (Value.int .u8 n42)] →
        inR .i64 (((list2.l : Nat) : Int) - (1 : Int)) ∧
        0 ≤ (0 : Int) ∧ (0 : Int) ≤ (((list2.l : Nat) : Int) - (1 : Int)) ∧ (((list2.l : Nat) : Int) - (1 : Int)) ≤ ((list2.c : Nat) : Int) ∧ ((list2.c : Nat) : Int) ≤ ((list2.c : Nat) : Int) ∧
        ∃ (I47 : (Option Addr) → (Int) → World → Prop) (mu48 : (Option Addr) → (Int) → World → Nat), I47 (p26) ((0 : Int)) w45 ∧ (
        ∀ u49 : Option Addr, ∀ i50 : Int, ∀ w51 : World, I47 u49 i50 w51 → ∀ u52 u53 u54 u55 u56 u57 u58 u59 u60 u61 u62 u63 u64 u65 u66 u67 u68 : Value,
          BIf (decide (i50 < (((Slc.sub list2 5 0 (Int.toNat (((list2.l : Nat) : Int) - (1 : Int))) list2.c).l : Nat) : Int))) (
            needSome (Slc.sub list2 5 0 (Int.toNat (((list2.l : Nat) : Int) - (1 : Int))) list2.c).p fun a69 =>
            0 ≤ i50 ∧ i50 < (((Slc.sub list2 5 0 (Int.toNat (((list2.l : Nat) : Int) - (1 : Int))) list2.c).l : Nat) : Int) ∧
            ∃ n70 : Int, ∃ n71 : Int, ∃ n72 : Int, ∃ n73 : Int, ∃ n74 : Int, rowAt w51 (Addr.add a69 ((Int.toNat i50) * 5)) 0 [(Value.int .i64 n70), (Value.int .i64 n71), (Value.int .i64 n72), (Value.int .i64 n73), (Value.int .u8 n74)] ∧
            newS w51 (.cells ⟨[(Value.int .i64 (0 : Int)), (Value.int .i64 (0 : Int)), (Value.int .i64 (0 : Int)), (Value.int .i64 (0 : Int)), (Value.int .u8 (0 : Int))]⟩ 30) fun r75 w76 =>
            canW w76 (⟨r75, 0, none⟩ : Addr) 5 ∧ ∀ w77 : World, w77 = setCells w76 (⟨r75, 0, none⟩ : Addr) 0 [(Value.int .i64 n70), (Value.int .i64 n71), (Value.int .i64 n72), (Value.int .i64 n73), (Value.int .u8 n74)] →
            ∃ n78 : Int, ∃ n79 : Int, ∃ n80 : Int, ∃ n81 : Int, ∃ n82 : Int, rowAt w77 (⟨r75, 0, none⟩ : Addr) 0 [(Value.int .i64 n78), (Value.int .i64 n79), (Value.int .i64 n80), (Value.int .i64 n81), (Value.int .u8 n82)] ∧
            Calls Tryz.prog fn_tidewaterlaw09_do ⟨[(Value.pointer p25), (Value.pointer u49), (Value.pointer p27), (Value.agg ⟨[(Value.int .i64 n78), (Value.int .i64 n79), (Value.int .i64 n80), (Value.int .i64 n81), (Value.int .u8 n82)]⟩)]⟩ w77 fun e83 w84 =>
            ∃ p85 : Option Addr, ∃ b86 : Bool, e83 = .returned (Value.tuple ⟨[(Value.pointer p85), (Value.bool b86)]⟩) ∧
            BIf (!b86) (
              K (Value.bool false) w84) (
              inR .i64 (i50 + (1 : Int)) ∧
              (I47 (p85) ((i50 + (1 : Int))) w84 ∧ mu48 (p85) ((i50 + (1 : Int))) w84 < mu48 u49 i50 w51))) (
            Calls Tryz.prog fn_tidewaterref09_Unit_Copy ⟨[(Value.pointer p27)]⟩ w51 fun e87 w88 =>
            ∃ p89 : Option Addr, e87 = .returned (Value.pointer p89) ∧
            ∃ n90 : Int, World.cell? w88 (⟨r7, 0, none⟩ : Addr) = some (Value.int .i64 n90) ∧
            Calls Tryz.prog fn_disk_Device_Stop ⟨[(Value.pointer p25), (Value.int .i64 n90)]⟩ w88 fun e91 w92 =>
            e91 = .returned (Value.tuple #[]) ∧
            ∃ J93 : (Value) → World → Prop,
            (
              ∃ n94 : Int, World.cell? w92 (⟨r43, 0, none⟩ : Addr) = some (Value.int .i64 n94) ∧
              BIf (decide (n94 = (0 : Int))) (
                ∃ n95 : Int, World.cell? (World.drew w92) (⟨r43, 1, none⟩ : Addr) = some (Value.int .i64 n95) ∧
                ∃ n96 : Int, World.cell? (World.drew w92) (⟨r43, 2, none⟩ : Addr) = some (Value.int .i64 n96) ∧
                ∃ n97 : Int, ∃ n98 : Int, ∃ n99 : Int, ∃ n100 : Int, ∃ n101 : Int, rowAt (World.drew w92) (⟨r43, 0, none⟩ : Addr) 0 [(Value.int .i64 n97), (Value.int .i64 n98), (Value.int .i64 n99), (Value.int .i64 n100), (Value.int .u8 n101)] ∧
                Calls Tryz.prog fn_tidewaterlaw09_Act_page ⟨[(Value.agg ⟨[(Value.int .i64 n97), (Value.int .i64 n98), (Value.int .i64 n99), (Value.int .i64 n100), (Value.int .u8 n101)]⟩)]⟩ (World.drew w92) fun e102 w103 =>
                ∃ s104 : Slc, e102 = .returned (Slc.v s104) ∧
                (∃ n105 : Int, World.cell? w103 (⟨r43, 2, none⟩ : Addr) = some (Value.int .i64 n105) ∧
                (Value.int .i64 n105) = (Value.int .i64 n96)) ∧
                (∃ n106 : Int, World.cell? w103 (⟨r43, 1, none⟩ : Addr) = some (Value.int .i64 n106) ∧
                (Value.int .i64 n106) = (Value.int .i64 n95)) ∧
                Calls Tryz.prog fn_unit_Unit_Write ⟨[(Value.pointer u49), (Value.int .i64 n95), (Value.int .i64 n96), (Slc.v s104)]⟩ w103 fun e107 w108 =>
                ∃ e109 : Value, e107 = .returned e109 ∧
                ∃ n110 : Int, World.cell? (World.drew w108) (⟨r43, 1, none⟩ : Addr) = some (Value.int .i64 n110) ∧
                ∃ n111 : Int, World.cell? (World.drew w108) (⟨r43, 2, none⟩ : Addr) = some (Value.int .i64 n111) ∧
                ∃ n112 : Int, ∃ n113 : Int, ∃ n114 : Int, ∃ n115 : Int, ∃ n116 : Int, rowAt (World.drew w108) (⟨r43, 0, none⟩ : Addr) 0 [(Value.int .i64 n112), (Value.int .i64 n113), (Value.int .i64 n114), (Value.int .i64 n115), (Value.int .u8 n116)] ∧
                Calls Tryz.prog fn_tidewaterlaw09_Act_page ⟨[(Value.agg ⟨[(Value.int .i64 n112), (Value.int .i64 n113), (Value.int .i64 n114), (Value.int .i64 n115), (Value.int .u8 n116)]⟩)]⟩ (World.drew w108) fun e117 w118 =>
                ∃ s119 : Slc, e117 = .returned (Slc.v s119) ∧
                (∃ n120 : Int, World.cell? w118 (⟨r43, 2, none⟩ : Addr) = some (Value.int .i64 n120) ∧
                (Value.int .i64 n120) = (Value.int .i64 n111)) ∧
                (∃ n121 : Int, World.cell? w118 (⟨r43, 1, none⟩ : Addr) = some (Value.int .i64 n121) ∧
                (Value.int .i64 n121) = (Value.int .i64 n110)) ∧
                Calls Tryz.prog fn_tidewaterref09_Unit_Write ⟨[(Value.pointer p89), (Value.int .i64 n110), (Value.int .i64 n111), (Slc.v s119)]⟩ w118 fun e122 w123 =>
                ∃ n124 : Int, e122 = .returned (Value.int .i64 n124) ∧
                J93 (e109) w123) (
                BIf (decide (n94 = (2 : Int))) (
                  ∃ n125 : Int, World.cell? w92 (⟨r43, 1, none⟩ : Addr) = some (Value.int .i64 n125) ∧
                  ∃ n126 : Int, World.cell? w92 (⟨r43, 2, none⟩ : Addr) = some (Value.int .i64 n126) ∧
                  Calls Tryz.prog fn_unit_Unit_Trim ⟨[(Value.pointer u49), (Value.int .i64 n125), (Value.int .i64 n126)]⟩ w92 fun e127 w128 =>
                  ∃ e129 : Value, e127 = .returned e129 ∧
                  ∃ n130 : Int, World.cell? w128 (⟨r43, 1, none⟩ : Addr) = some (Value.int .i64 n130) ∧
                  ∃ n131 : Int, World.cell? w128 (⟨r43, 2, none⟩ : Addr) = some (Value.int .i64 n131) ∧
                  Calls Tryz.prog fn_tidewaterref09_Unit_Trim ⟨[(Value.pointer p89), (Value.int .i64 n130), (Value.int .i64 n131)]⟩ w128 fun e132 w133 =>
                  ∃ n134 : Int, e132 = .returned (Value.int .i64 n134) ∧
                  J93 (e129) w133) (
                  ∃ n135 : Int, World.cell? w92 (⟨r43, 1, none⟩ : Addr) = some (Value.int .i64 n135) ∧
                  Calls Tryz.prog fn_unit_Unit_Seal ⟨[(Value.pointer u49), (Value.int .i64 n135)]⟩ w92 fun e136 w137 =>
                  ∃ n138 : Int, ∃ e139 : Value, e136 = .returned (Value.tuple ⟨[(Value.int .i64 n138), e139]⟩) ∧
                  ∃ n140 : Int, World.cell? w137 (⟨r43, 1, none⟩ : Addr) = some (Value.int .i64 n140) ∧
                  Calls Tryz.prog fn_tidewaterref09_Unit_Seal ⟨[(Value.pointer p89), (Value.int .i64 n140)]⟩ w137 fun e141 w142 =>
                  ∃ n143 : Int, ∃ n144 : Int, e141 = .returned (Value.tuple ⟨[(Value.int .i64 n143), (Value.int .i64 n144)]⟩) ∧
                  J93 (e139) w142))) ∧ (
            ∀ err145 : Value, ∀ w146 : World, J93 err145 w146 → ∀ u147 u148 u149 u150 u151 u152 u153 u154 u155 u156 u157 u158 u159 u160 u161 u162 u163 u164 u165 u166 u167 u168 u169 u170 u171 u172 u173 u174 u175 u176 u177 u178 u179 u180 u181 u182 u183 u184 u185 u186 u187 u188 u189 u190 u191 : Value,
              ∃ n192 : Int, World.cell? w146 (⟨r7, 1, none⟩ : Addr) = some (Value.int .u64 n192) ∧
              ∃ n193 : Int, World.cell? w146 (⟨r7, 2, none⟩ : Addr) = some (Value.int .i64 n193) ∧
              ∃ n194 : Int, World.cell? w146 (⟨r7, 3, none⟩ : Addr) = some (Value.int .i64 n194) ∧
              Calls Tryz.prog fn_disk_Device_Crash ⟨[(Value.pointer p25), (Value.int .u64 n192), (Value.int .i64 n193), (Value.int .i64 n194)]⟩ w146 fun e195 w196 =>
              e195 = .returned (Value.tuple #[]) ∧
              Calls Tryz.prog fn_unit_Open ⟨[(Value.pointer p25)]⟩ w196 fun e197 w198 =>
              ∃ p199 : Option Addr, ∃ e200 : Value, e197 = .returned (Value.tuple ⟨[(Value.pointer p199), e200]⟩) ∧
              ∃ J201 : World → Prop,
              (
                isI e200 ∧
                BIf (!isNilI e200) (
                  K (Value.bool false) w198) (
                  BIf (Option.isNone (p199 : Option Addr)) (
                    K (Value.bool false) w198) (
                    J201 w198))) ∧ (
              ∀ w202 : World, J201 w202 → ∀ u203 u204 u205 u206 u207 u208 u209 : Value,
                isI err145 ∧
                BIf (isNilI err145) (
                  Calls Tryz.prog fn_tidewaterlaw09_told ⟨[(Value.pointer p199), (Value.pointer p89)]⟩ w202 fun e210 w211 =>
                  ∃ b212 : Bool, e210 = .returned (Value.bool b212) ∧
                  K (Value.bool b212) w211) (
                  Calls Tryz.prog fn_tidewaterlaw09_told ⟨[(Value.pointer p199), (Value.pointer p27)]⟩ w202 fun e213 w214 =>
                  ∃ b215 : Bool, e213 = .returned (Value.bool b215) ∧
                  BIf b215 (
                    K (Value.bool true) w214) (
                    Calls Tryz.prog fn_tidewaternum_Num ⟨[err145]⟩ w214 fun e216 w217 =>
                    ∃ n218 : Int, e216 = .returned (Value.int .i64 n218) ∧
                    BIf (decide (n218 = (12 : Int))) (
                      Calls Tryz.prog fn_tidewaterlaw09_told ⟨[(Value.pointer p199), (Value.pointer p89)]⟩ w217 fun e219 w220 =>
                      ∃ b221 : Bool, e219 = .returned (Value.bool b221) ∧
                      K (Value.bool b221) w220) (
                      K (Value.bool false) w217))))))))))

theorem tidewaterlaw09_UnitPower_eq (n1 : Int) (list2 : Slc) (loss3 : Int) (loss4 : Int) (loss5 : Int) (loss6 : Int) (w : World) (K : Value → World → Prop) : tidewaterlaw09_UnitPower n1 list2 loss3 loss4 loss5 loss6 w K = denF Tryz.prog callB Tryz.f4 (.two .none (.two .none (.cut [] [6, 20, 21, 22, 23, 24, 25, 26, 27] .none (.two .none (.cut [] [6, 34, 35, 36, 37, 38, 39] .none (.two .none (.two (.two .none (.one (.loop [(8, Sh.ptr), (52, (Sh.int .i64))] [6, 12, 13, 53, 54, 55, 56, 57, 58, 59, 60, 61, 62, 63, 64, 65, 66] .none))) (.two .none (.two .none (.two .none (.cut [(15, Sh.any)] [73, 74, 75, 76, 77, 78, 79, 80, 81, 82, 83, 84, 85, 86, 87, 88, 89, 90, 91, 92, 93, 94, 95, 96, 97, 98, 99, 100, 101, 102, 103, 104, 105, 106, 107, 108, 109, 110, 111, 112, 113, 114, 115, 116, 117] .none (.two .none (.two .none (.cut [] [6, 131, 132, 133, 134, 135, 136] .none .none)))))))))))))) [(Value.int .i64 n1), (Slc.v list2), (Value.agg ⟨[(Value.int .i64 loss3), (Value.int .u64 loss4), (Value.int .i64 loss5), (Value.int .i64 loss6)]⟩)] w K := by kernel_rfl
theorem tidewaterlaw09_UnitPower_ok (n1 : Int) (list2 : Slc) (loss3 : Int) (loss4 : Int) (loss5 : Int) (loss6 : Int) {w : World} {R : Ending → World → Prop} (h : tidewaterlaw09_UnitPower n1 list2 loss3 loss4 loss5 loss6 w fun v w' => R (.returned v) w') : Calls Tryz.prog fn_tidewaterlaw09_UnitPower ⟨[(Value.int .i64 n1), (Slc.v list2), (Value.agg ⟨[(Value.int .i64 loss3), (Value.int .u64 loss4), (Value.int .i64 loss5), (Value.int .i64 loss6)]⟩)]⟩ w R :=
  calls_of_den callB_ok mixed Tryz.func4 (tidewaterlaw09_UnitPower_eq n1 list2 loss3 loss4 loss5 loss6 w _ ▸ h)

end Go.D
