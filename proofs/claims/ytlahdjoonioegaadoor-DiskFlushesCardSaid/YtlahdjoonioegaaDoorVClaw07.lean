/-
  WHAT IS PROVED: verification conditions of functions of this program, each with its soundness. No further conditions.
-/
import Derived.Test.YtlahdjoonioegaaDoorBase
set_option linter.unusedSimpArgs false
set_option maxRecDepth 100000
set_option linter.unusedVariables false
namespace Go.D
open Go Go.Proofs
/-- tidewater/tidewaterlaw07.alive -/
def tidewaterlaw07_alive  (w : World) (K : Value → World → Prop) : Prop :=
  Calls Tryd.prog fn_disk_New ⟨[(Value.int .i64 (2 : Int))]⟩ w fun e1 w2 =>
  ∃ p3 : Option Addr, ∃ e4 : Value, e1 = .returned (Value.tuple ⟨[(Value.pointer p3), e4]⟩) ∧
  ∃ J5 : World → Prop,
  (
    isI e4 ∧
    BIf (!isNilI e4) (
      K (Value.bool false) w2) (
      BIf (Option.isNone (p3 : Option Addr)) (
        K (Value.bool false) w2) (
        J5 w2))) ∧ (
  ∀ w6 : World, J5 w6 → ∀ u7 u8 u9 u10 u11 u12 u13 : Value,
    0 ≤ (64 : Int) ∧ (64 : Int) ≤ (64 : Int) ∧ (64 : Int) ≤ 2 ^ 30 ∧
    newS w6 (.cells ⟨repl 64 [(Value.int .u8 (0 : Int))]⟩ 5) fun r14 w15 =>
    0 ≤ (0 : Int) ∧ (0 : Int) < ((64 : Nat) : Int) ∧
    canW w15 (⟨r14, 0, none⟩ : Addr) 1 ∧ ∀ w16 : World, w16 = World.setCell w15 (⟨r14, 0, none⟩ : Addr) (Value.int .u8 (7 : Int)) →
    Calls Tryd.prog fn_disk_Device_Write ⟨[(Value.pointer p3), (Value.int .i64 (1 : Int)), (Slc.v (⟨(some (⟨r14, 0, none⟩ : Addr)), 64, 64⟩ : Slc))]⟩ w16 fun e17 w18 =>
    ∃ e19 : Value, e17 = .returned e19 ∧
    isI e19 ∧
    BIf (!isNilI e19) (
      K (Value.bool false) w18) (
      Calls Tryd.prog fn_disk_Device_Read ⟨[(Value.pointer p3), (Value.int .i64 (1 : Int))]⟩ w18 fun e20 w21 =>
      ∃ s22 : Slc, ∃ e23 : Value, e20 = .returned (Value.tuple ⟨[(Slc.v s22), e23]⟩) ∧
      Calls Tryd.prog fn_disk_Device_Crash ⟨[(Value.pointer p3), (Value.int .u64 (0 : Int)), (Value.int .i64 (-1 : Int)), (Value.int .i64 (0 : Int))]⟩ w21 fun e24 w25 =>
      e24 = .returned (Value.tuple #[]) ∧
      Calls Tryd.prog fn_disk_Device_Read ⟨[(Value.pointer p3), (Value.int .i64 (1 : Int))]⟩ w25 fun e26 w27 =>
      ∃ s28 : Slc, ∃ e29 : Value, e26 = .returned (Value.tuple ⟨[(Slc.v s28), e29]⟩) ∧
      isI e23 ∧
      BIf (isNilI e23) (
        isI e29 ∧
        BIf (isNilI e29) (
          needSome s22.p fun a30 =>
          0 ≤ (0 : Int) ∧ (0 : Int) < ((s22.l : Nat) : Int) ∧
          ∃ n31 : Int, World.cell? w27 a30 = some (Value.int .u8 n31) ∧
          BIf (decide (n31 = (7 : Int))) (
            needSome s28.p fun a32 =>
            0 ≤ (0 : Int) ∧ (0 : Int) < ((s28.l : Nat) : Int) ∧
            ∃ n33 : Int, World.cell? w27 a32 = some (Value.int .u8 n33) ∧
            K (Value.bool (decide (n33 = (0 : Int)))) w27) (
            K (Value.bool false) w27)) (
          K (Value.bool false) w27)) (
        K (Value.bool false) w27)))

theorem tidewaterlaw07_alive_eq  (w : World) (K : Value → World → Prop) : tidewaterlaw07_alive  w K = denF Tryd.prog callB Tryd.f5 (.two .none (.two .none (.cut [] [0, 12, 13, 14, 15, 16, 17] .none .none))) [] w K := by kernel_rfl
theorem tidewaterlaw07_alive_ok  {w : World} {R : Ending → World → Prop} (h : tidewaterlaw07_alive  w fun v w' => R (.returned v) w') : Calls Tryd.prog fn_tidewaterlaw07_alive ⟨[]⟩ w R :=
  calls_of_den callB_ok mixed Tryd.func5 (tidewaterlaw07_alive_eq  w _ ▸ h)

/-- tidewater/tidewaterlaw07.DiskFlushes -/
def tidewaterlaw07_DiskFlushes (list1 : Slc) (more2 : Slc) (w : World) (K : Value → World → Prop) : Prop :=
  Calls Tryd.prog fn_tidewaterlaw07_alive ⟨[]⟩ w fun e3 w4 =>
  ∃ b5 : Bool, e3 = .returned (Value.bool b5) ∧
  BIf (!b5) (
    K (Value.bool false) w4) (
    ∃ J6 : World → Prop,
    (
      BIf (decide ((50 : Int) < ((list1.l : Nat) : Int))) (
        K (Value.bool true) w4) (
        BIf (decide ((50 : Int) < ((more2.l : Nat) : Int))) (
          K (Value.bool true) w4) (
          J6 w4))) ∧ (
    ∀ w7 : World, J6 w7 → ∀ u8 u9 u10 u11 u12 u13 u14 u15 u16 : Value,
      Calls Tryd.prog fn_disk_New ⟨[(Value.int .i64 (6 : Int))]⟩ w7 fun e17 w18 =>
      ∃ p19 : Option Addr, ∃ e20 : Value, e17 = .returned (Value.tuple ⟨[(Value.pointer p19), e20]⟩) ∧
      isI e20 ∧
      BIf (!isNilI e20) (
        K (Value.bool false) w18) (
        ∃ (I21 : (Int) → World → Prop) (mu22 : (Int) → World → Nat), I21 ((0 : Int)) w18 ∧ (
        ∀ i23 : Int, ∀ w24 : World, I21 i23 w24 → ∀ u25 u26 u27 u28 u29 u30 u31 u32 u33 u34 u35 u36 u37 u38 u39 u40 u41 u42 u43 u44 u45 : Value,
          BIf (decide (i23 < ((list1.l : Nat) : Int))) (
            needSome list1.p fun a46 =>
            0 ≤ i23 ∧ i23 < ((list1.l : Nat) : Int) ∧
            ∃ n47 : Int, ∃ n48 : Int, ∃ n49 : Int, ∃ n50 : Int, ∃ n51 : Int, ∃ n52 : Int, ∃ n53 : Int, rowAt w24 (Addr.add a46 ((Int.toNat i23) * 7)) 0 [(Value.int .i64 n47), (Value.int .i64 n48), (Value.int .i64 n49), (Value.int .u8 n50), (Value.int .u64 n51), (Value.int .i64 n52), (Value.int .i64 n53)] ∧
            newS w24 (.cells ⟨[(Value.int .i64 (0 : Int)), (Value.int .i64 (0 : Int)), (Value.int .i64 (0 : Int)), (Value.int .u8 (0 : Int)), (Value.int .u64 (0 : Int)), (Value.int .i64 (0 : Int)), (Value.int .i64 (0 : Int))]⟩ 31) fun r54 w55 =>
            canW w55 (⟨r54, 0, none⟩ : Addr) 7 ∧ ∀ w56 : World, w56 = setCells w55 (⟨r54, 0, none⟩ : Addr) 0 [(Value.int .i64 n47), (Value.int .i64 n48), (Value.int .i64 n49), (Value.int .u8 n50), (Value.int .u64 n51), (Value.int .i64 n52), (Value.int .i64 n53)] →
            0 ≤ (64 : Int) ∧ (64 : Int) ≤ (64 : Int) ∧ (64 : Int) ≤ 2 ^ 30 ∧
            newS w56 (.cells ⟨repl 64 [(Value.int .u8 (0 : Int))]⟩ 5) fun r57 w58 =>
            ∃ n59 : Int, World.cell? w58 (⟨r54, 6, none⟩ : Addr) = some (Value.int .i64 n59) ∧
            0 ≤ (IntKind.wrap .u64 n59) ∧ 0 < (64 : Int) ∧
            ∃ n60 : Int, World.cell? w58 (⟨r54, 3, none⟩ : Addr) = some (Value.int .u8 n60) ∧
            0 ≤ (IntKind.wrap .i64 ((IntKind.wrap .u64 n59) % (64 : Int))) ∧ (IntKind.wrap .i64 ((IntKind.wrap .u64 n59) % (64 : Int))) < ((64 : Nat) : Int) ∧
            canW w58 (Addr.add (⟨r57, 0, none⟩ : Addr) ((Int.toNat (IntKind.wrap .i64 ((IntKind.wrap .u64 n59) % (64 : Int)))) * 1)) 1 ∧ ∀ w61 : World, w61 = World.setCell w58 (Addr.add (⟨r57, 0, none⟩ : Addr) ((Int.toNat (IntKind.wrap .i64 ((IntKind.wrap .u64 n59) % (64 : Int)))) * 1)) (Value.int .u8 n60) →
            ∃ n62 : Int, World.cell? w61 (⟨r54, 1, none⟩ : Addr) = some (Value.int .i64 n62) ∧
            Calls Tryd.prog fn_disk_Device_Write ⟨[(Value.pointer p19), (Value.int .i64 n62), (Slc.v (⟨(some (⟨r57, 0, none⟩ : Addr)), 64, 64⟩ : Slc))]⟩ w61 fun e63 w64 =>
            ∃ e65 : Value, e63 = .returned e65 ∧
            inR .i64 (i23 + (1 : Int)) ∧
            (I21 ((i23 + (1 : Int))) w64 ∧ mu22 ((i23 + (1 : Int))) w64 < mu22 i23 w24)) (
            Calls Tryd.prog fn_disk_Device_Flush ⟨[(Value.pointer p19)]⟩ w24 fun e66 w67 =>
            ∃ e68 : Value, e66 = .returned e68 ∧
            isI e68 ∧
            BIf (!isNilI e68) (
              K (Value.bool false) w67) (
              Calls Tryd.prog fn_disk_Device_Image ⟨[(Value.pointer p19)]⟩ w67 fun e69 w70 =>
              ∃ s71 : Slc, e69 = .returned (Slc.v s71) ∧
              ∃ t72 : List UInt8, bytesAt w70 s71 t72 ∧
              ∃ (I73 : (Int) → World → Prop) (mu74 : (Int) → World → Nat), I73 ((0 : Int)) w70 ∧ (
              ∀ i75 : Int, ∀ w76 : World, I73 i75 w76 → ∀ u77 u78 u79 u80 u81 u82 u83 u84 u85 u86 u87 u88 u89 u90 u91 u92 : Value,
                BIf (decide (i75 < ((more2.l : Nat) : Int))) (
                  needSome more2.p fun a93 =>
                  0 ≤ i75 ∧ i75 < ((more2.l : Nat) : Int) ∧
                  ∃ n94 : Int, ∃ n95 : Int, ∃ n96 : Int, ∃ n97 : Int, ∃ n98 : Int, ∃ n99 : Int, ∃ n100 : Int, rowAt w76 (Addr.add a93 ((Int.toNat i75) * 7)) 0 [(Value.int .i64 n94), (Value.int .i64 n95), (Value.int .i64 n96), (Value.int .u8 n97), (Value.int .u64 n98), (Value.int .i64 n99), (Value.int .i64 n100)] ∧
                  newS w76 (.cells ⟨[(Value.int .i64 (0 : Int)), (Value.int .i64 (0 : Int)), (Value.int .i64 (0 : Int)), (Value.int .u8 (0 : Int)), (Value.int .u64 (0 : Int)), (Value.int .i64 (0 : Int)), (Value.int .i64 (0 : Int))]⟩ 31) fun r101 w102 =>
                  canW w102 (⟨r101, 0, none⟩ : Addr) 7 ∧ ∀ w103 : World, w103 = setCells w102 (⟨r101, 0, none⟩ : Addr) 0 [(Value.int .i64 n94), (Value.int .i64 n95), (Value.int .i64 n96), (Value.int .u8 n97), (Value.int .u64 n98), (Value.int .i64 n99), (Value.int .i64 n100)] →
                  ∃ n104 : Int, World.cell? (World.drew w103) (⟨r101, 1, none⟩ : Addr) = some (Value.int .i64 n104) ∧
                  0 ≤ (64 : Int) ∧ (64 : Int) ≤ (64 : Int) ∧ (64 : Int) ≤ 2 ^ 30 ∧
                  newS (World.drew w103) (.cells ⟨repl 64 [(Value.int .u8 (0 : Int))]⟩ 5) fun r105 w106 =>
                  (∃ n107 : Int, World.cell? w106 (⟨r101, 1, none⟩ : Addr) = some (Value.int .i64 n107) ∧
                  (Value.int .i64 n107) = (Value.int .i64 n104)) ∧
                  Calls Tryd.prog fn_disk_Device_Write ⟨[(Value.pointer p19), (Value.int .i64 n104), (Slc.v (⟨(some (⟨r105, 0, none⟩ : Addr)), 64, 64⟩ : Slc))]⟩ w106 fun e108 w109 =>
                  ∃ e110 : Value, e108 = .returned e110 ∧
                  Calls Tryd.prog fn_disk_Device_Image ⟨[(Value.pointer p19)]⟩ w109 fun e111 w112 =>
                  ∃ s113 : Slc, e111 = .returned (Slc.v s113) ∧
                  ∃ t114 : List UInt8, bytesAt w112 s113 t114 ∧
                  BIf (!decide (t114 = t72)) (
                    K (Value.bool false) w112) (
                    inR .i64 (i75 + (1 : Int)) ∧
                    (I73 ((i75 + (1 : Int))) w112 ∧ mu74 ((i75 + (1 : Int))) w112 < mu74 i75 w76))) (
                  Calls Tryd.prog fn_disk_Device_Crash ⟨[(Value.pointer p19), (Value.int .u64 (0 : Int)), (Value.int .i64 (-1 : Int)), (Value.int .i64 (0 : Int))]⟩ w76 fun e115 w116 =>
                  e115 = .returned (Value.tuple #[]) ∧
                  Calls Tryd.prog fn_disk_Device_Image ⟨[(Value.pointer p19)]⟩ w116 fun e117 w118 =>
                  ∃ s119 : Slc, e117 = .returned (Slc.v s119) ∧
                  ∃ t120 : List UInt8, bytesAt w118 s119 t120 ∧
                  BIf (decide (t120 = t72)) (
                    Calls Tryd.prog fn_disk_Device_Pending ⟨[(Value.pointer p19)]⟩ w118 fun e121 w122 =>
                    ∃ n123 : Int, e121 = .returned (Value.int .i64 n123) ∧
                    BIf (decide (n123 = (0 : Int))) (
                      Calls Tryd.prog fn_disk_Device_Down ⟨[(Value.pointer p19)]⟩ w122 fun e124 w125 =>
                      ∃ b126 : Bool, e124 = .returned (Value.bool b126) ∧
                      K (Value.bool (!b126)) w125) (
                      K (Value.bool false) w122)) (
                    K (Value.bool false) w118)))))))))

theorem tidewaterlaw07_DiskFlushes_eq (list1 : Slc) (more2 : Slc) (w : World) (K : Value → World → Prop) : tidewaterlaw07_DiskFlushes list1 more2 w K = denF Tryd.prog callB Tryd.f3 (.two .none (.two .none (.cut [] [4, 15, 16, 17, 18, 19, 20, 21, 22] .none (.two .none (.two .none (.two (.two .none (.one (.loop [(31, (Sh.int .i64))] [8, 9, 32, 33, 34, 35, 36, 37, 38, 39, 40, 41, 42, 43, 44, 45, 46, 47, 48, 49, 50] .none))) (.two .none (.two .none (.two (.two .none (.one (.loop [(59, (Sh.int .i64))] [4, 12, 60, 61, 62, 63, 64, 65, 66, 67, 68, 69, 70, 71, 72, 73] .none))) .none))))))))) [(Slc.v list1), (Slc.v more2)] w K := by kernel_rfl
theorem tidewaterlaw07_DiskFlushes_ok (list1 : Slc) (more2 : Slc) {w : World} {R : Ending → World → Prop} (h : tidewaterlaw07_DiskFlushes list1 more2 w fun v w' => R (.returned v) w') : Calls Tryd.prog fn_tidewaterlaw07_DiskFlushes ⟨[(Slc.v list1), (Slc.v more2)]⟩ w R :=
  calls_of_den callB_ok mixed Tryd.func3 (tidewaterlaw07_DiskFlushes_eq list1 more2 w _ ▸ h)

/-- tidewater/tidewaterlaw07.DiskFrom -/
def tidewaterlaw07_DiskFrom (image1 : Slc) (at2 : Int) (w : World) (K : Value → World → Prop) : Prop :=
  Calls Tryd.prog fn_tidewaterlaw07_alive ⟨[]⟩ w fun e3 w4 =>
  ∃ b5 : Bool, e3 = .returned (Value.bool b5) ∧
  BIf (!b5) (
    K (Value.bool false) w4) (
    BIf (decide ((3000 : Int) < ((image1.l : Nat) : Int))) (
      K (Value.bool true) w4) (
      Calls Tryd.prog fn_tidewaternum_Bytes ⟨[(Slc.v image1)]⟩ w4 fun e6 w7 =>
      ∃ s8 : Slc, e6 = .returned (Slc.v s8) ∧
      Calls Tryd.prog fn_disk_From ⟨[(Slc.v s8)]⟩ w7 fun e9 w10 =>
      ∃ p11 : Option Addr, ∃ e12 : Value, e9 = .returned (Value.tuple ⟨[(Value.pointer p11), e12]⟩) ∧
      ∃ J13 : World → Prop,
      (
        BIf (decide (((image1.l : Nat) : Int) = (0 : Int))) (
          BIf (Option.isNone (p11 : Option Addr)) (
            Calls Tryd.prog fn_tidewaternum_Num ⟨[e12]⟩ w10 fun e14 w15 =>
            ∃ n16 : Int, e14 = .returned (Value.int .i64 n16) ∧
            K (Value.bool (decide (n16 = (4 : Int)))) w15) (
            K (Value.bool false) w10)) (
          0 ≤ ((image1.l : Nat) : Int) ∧ 0 < (64 : Int) ∧
          BIf (!decide ((((image1.l : Nat) : Int) % (64 : Int)) = (0 : Int))) (
            BIf (Option.isNone (p11 : Option Addr)) (
              Calls Tryd.prog fn_tidewaternum_Num ⟨[e12]⟩ w10 fun e17 w18 =>
              ∃ n19 : Int, e17 = .returned (Value.int .i64 n19) ∧
              K (Value.bool (decide (n19 = (4 : Int)))) w18) (
              K (Value.bool false) w10)) (
            J13 w10))) ∧ (
      ∀ w20 : World, J13 w20 → ∀ u21 u22 u23 u24 u25 u26 u27 u28 u29 u30 u31 u32 u33 u34 u35 u36 u37 : Value,
        ∃ J38 : World → Prop,
        (
          isI e12 ∧
          BIf (!isNilI e12) (
            K (Value.bool false) (World.drew w20)) (
            BIf (Option.isNone (p11 : Option Addr)) (
              K (Value.bool false) (World.drew w20)) (
              ∃ t39 : List UInt8, bytesAt (World.drew w20) image1 t39 ∧
              Calls Tryd.prog fn_disk_Device_Image ⟨[(Value.pointer p11)]⟩ (World.drew w20) fun e40 w41 =>
              ∃ s42 : Slc, e40 = .returned (Slc.v s42) ∧
              (∃ t43 : List UInt8, bytesAt w41 image1 t43 ∧
              (strV t43) = (strV t39)) ∧
              ∃ t44 : List UInt8, bytesAt w41 s42 t44 ∧
              BIf (!decide (t44 = t39)) (
                K (Value.bool false) w41) (
                Calls Tryd.prog fn_tidewaternum_Kept ⟨[(Slc.v s8), (Slc.v image1)]⟩ w41 fun e45 w46 =>
                ∃ b47 : Bool, e45 = .returned (Value.bool b47) ∧
                BIf (!b47) (
                  K (Value.bool false) w46) (
                  J38 w46))))) ∧ (
        ∀ w48 : World, J38 w48 → ∀ u49 u50 u51 u52 u53 u54 u55 u56 u57 u58 u59 u60 u61 u62 u63 u64 u65 u66 u67 u68 u69 : Value,
          0 ≤ ((image1.l : Nat) : Int) ∧ 0 < (64 : Int) ∧ inR .i64 ((image1.l : Nat) : Int) ∧
          0 ≤ (IntKind.wrap .u64 at2) ∧ 0 < (IntKind.wrap .u64 (((image1.l : Nat) : Int) / (64 : Int))) ∧
          Calls Tryd.prog fn_disk_Device_Read ⟨[(Value.pointer p11), (Value.int .i64 (IntKind.wrap .i64 ((IntKind.wrap .u64 at2) % (IntKind.wrap .u64 (((image1.l : Nat) : Int) / (64 : Int))))))]⟩ w48 fun e70 w71 =>
          ∃ s72 : Slc, ∃ e73 : Value, e70 = .returned (Value.tuple ⟨[(Slc.v s72), e73]⟩) ∧
          isI e73 ∧
          BIf (isNilI e73) (
            ∃ t74 : List UInt8, bytesAt (World.drew w71) s72 t74 ∧
            inR .i64 ((64 : Int) * (IntKind.wrap .i64 ((IntKind.wrap .u64 at2) % (IntKind.wrap .u64 (((image1.l : Nat) : Int) / (64 : Int)))))) ∧
            inR .i64 ((64 : Int) * (IntKind.wrap .i64 ((IntKind.wrap .u64 at2) % (IntKind.wrap .u64 (((image1.l : Nat) : Int) / (64 : Int)))))) ∧
            inR .i64 (((64 : Int) * (IntKind.wrap .i64 ((IntKind.wrap .u64 at2) % (IntKind.wrap .u64 (((image1.l : Nat) : Int) / (64 : Int)))))) + (64 : Int)) ∧
            0 ≤ ((64 : Int) * (IntKind.wrap .i64 ((IntKind.wrap .u64 at2) % (IntKind.wrap .u64 (((image1.l : Nat) : Int) / (64 : Int)))))) ∧ ((64 : Int) * (IntKind.wrap .i64 ((IntKind.wrap .u64 at2) % (IntKind.wrap .u64 (((image1.l : Nat) : Int) / (64 : Int)))))) ≤ (((64 : Int) * (IntKind.wrap .i64 ((IntKind.wrap .u64 at2) % (IntKind.wrap .u64 (((image1.l : Nat) : Int) / (64 : Int)))))) + (64 : Int)) ∧ (((64 : Int) * (IntKind.wrap .i64 ((IntKind.wrap .u64 at2) % (IntKind.wrap .u64 (((image1.l : Nat) : Int) / (64 : Int)))))) + (64 : Int)) ≤ ((image1.c : Nat) : Int) ∧ ((image1.c : Nat) : Int) ≤ ((image1.c : Nat) : Int) ∧
            ∃ t76 : List UInt8, bytesAt (World.drew w71) (Slc.sub image1 1 (Int.toNat ((64 : Int) * (IntKind.wrap .i64 ((IntKind.wrap .u64 at2) % (IntKind.wrap .u64 (((image1.l : Nat) : Int) / (64 : Int))))))) (Int.toNat (((64 : Int) * (IntKind.wrap .i64 ((IntKind.wrap .u64 at2) % (IntKind.wrap .u64 (((image1.l : Nat) : Int) / (64 : Int)))))) + (64 : Int))) image1.c) t76 ∧
            BIf (decide (t74 = t76)) (
              Calls Tryd.prog fn_disk_Device_Pending ⟨[(Value.pointer p11)]⟩ (World.drew w71) fun e77 w78 =>
              ∃ n79 : Int, e77 = .returned (Value.int .i64 n79) ∧
              BIf (decide (n79 = (0 : Int))) (
                0 ≤ ((image1.l : Nat) : Int) ∧ 0 < (64 : Int) ∧ inR .i64 ((image1.l : Nat) : Int) ∧
                Calls Tryd.prog fn_disk_Device_Len ⟨[(Value.pointer p11)]⟩ w78 fun e80 w81 =>
                ∃ n82 : Int, e80 = .returned (Value.int .i64 n82) ∧
                K (Value.bool (decide (n82 = (((image1.l : Nat) : Int) / (64 : Int))))) w81) (
                K (Value.bool false) w78)) (
              K (Value.bool false) (World.drew w71))) (
            K (Value.bool false) (World.drew w71))))))

theorem tidewaterlaw07_DiskFrom_eq (image1 : Slc) (at2 : Int) (w : World) (K : Value → World → Prop) : tidewaterlaw07_DiskFrom image1 at2 w K = denF Tryd.prog callB Tryd.f4 (.two .none (.two .none (.two .none (.two .none (.two .none (.cut [] [4, 21, 22, 23, 24, 25, 26, 27, 28, 29, 30, 31, 32, 33, 34, 35, 36] .none (.cut [] [4, 37, 38, 39, 40, 41, 42, 43, 44, 45, 46, 47, 48, 49, 50, 51, 52, 53, 54, 55, 56] .none .none))))))) [(Slc.v image1), (Value.int .i64 at2)] w K := by kernel_rfl
theorem tidewaterlaw07_DiskFrom_ok (image1 : Slc) (at2 : Int) {w : World} {R : Ending → World → Prop} (h : tidewaterlaw07_DiskFrom image1 at2 w fun v w' => R (.returned v) w') : Calls Tryd.prog fn_tidewaterlaw07_DiskFrom ⟨[(Slc.v image1), (Value.int .i64 at2)]⟩ w R :=
  calls_of_den callB_ok mixed Tryd.func4 (tidewaterlaw07_DiskFrom_eq image1 at2 w _ ▸ h)

end Go.D
