/-
  WHAT IS PROVED: verification conditions of functions of this program, each with its soundness. No further conditions.
-/
import Derived.Test.YtbeciidagekppaaDoorBase
set_option linter.unusedSimpArgs false
set_option maxRecDepth 100000
set_option linter.unusedVariables false
namespace Go.D
open Go Go.Proofs
/-- tidewater/segs.Open$1 -/
def segs_Open_1 (a1 : Option Addr) (b2 : Option Addr) (w : World) (K : Value → World → Prop) : Prop :=
  needSome a1 fun a3 =>
  ∃ n4 : Int, World.cell? (World.drew w) (a3.add 1) = some (Value.int .i64 n4) ∧
  needSome b2 fun a5 =>
  ∃ n6 : Int, World.cell? (World.drew w) (a5.add 1) = some (Value.int .i64 n6) ∧
  Calls Tryd.prog fn_cmp_Compare_int ⟨[(Value.int .i64 n4), (Value.int .i64 n6)]⟩ (World.drew w) fun e7 w8 =>
  ∃ n9 : Int, e7 = .returned (Value.int .i64 n9) ∧
  K (Value.int .i64 n9) w8

theorem segs_Open_1_eq (a1 : Option Addr) (b2 : Option Addr) (w : World) (K : Value → World → Prop) : segs_Open_1 a1 b2 w K = denF Tryd.prog callB Tryd.f41 .none [(Value.pointer a1), (Value.pointer b2)] w K := by kernel_rfl
theorem segs_Open_1_ok (a1 : Option Addr) (b2 : Option Addr) {w : World} {R : Ending → World → Prop} (h : segs_Open_1 a1 b2 w fun v w' => R (.returned v) w') : Calls Tryd.prog fn_segs_Open_1 ⟨[(Value.pointer a1), (Value.pointer b2)]⟩ w R :=
  calls_of_den callB_ok mixed Tryd.func41 (segs_Open_1_eq a1 b2 w _ ▸ h)

/-- cmp.Compare[int] -/
def cmp_Compare_int (x1 : Int) (y2 : Int) (w : World) (K : Value → World → Prop) : Prop :=
  Calls Tryd.prog fn_cmp_isNaN_int ⟨[(Value.int .i64 x1)]⟩ w fun e3 w4 =>
  ∃ b5 : Bool, e3 = .returned (Value.bool b5) ∧
  Calls Tryd.prog fn_cmp_isNaN_int ⟨[(Value.int .i64 y2)]⟩ w4 fun e6 w7 =>
  ∃ b8 : Bool, e6 = .returned (Value.bool b8) ∧
  BIf b5 (
    BIf b8 (
      K (Value.int .i64 (0 : Int)) w7) (
      K (Value.int .i64 (-1 : Int)) w7)) (
    BIf b8 (
      K (Value.int .i64 (1 : Int)) w7) (
      BIf (decide (x1 < y2)) (
        K (Value.int .i64 (-1 : Int)) w7) (
        BIf (decide (y2 < x1)) (
          K (Value.int .i64 (1 : Int)) w7) (
          K (Value.int .i64 (0 : Int)) w7))))

theorem cmp_Compare_int_eq (x1 : Int) (y2 : Int) (w : World) (K : Value → World → Prop) : cmp_Compare_int x1 y2 w K = denF Tryd.prog callB Tryd.f42 .none [(Value.int .i64 x1), (Value.int .i64 y2)] w K := by kernel_rfl
theorem cmp_Compare_int_ok (x1 : Int) (y2 : Int) {w : World} {R : Ending → World → Prop} (h : cmp_Compare_int x1 y2 w fun v w' => R (.returned v) w') : Calls Tryd.prog fn_cmp_Compare_int ⟨[(Value.int .i64 x1), (Value.int .i64 y2)]⟩ w R :=
  calls_of_den callB_ok mixed Tryd.func42 (cmp_Compare_int_eq x1 y2 w _ ▸ h)

/-- cmp.isNaN[int] -/
def cmp_isNaN_int (x1 : Int) (w : World) (K : Value → World → Prop) : Prop :=
  K (Value.bool (!decide (x1 = x1))) w

theorem cmp_isNaN_int_eq (x1 : Int) (w : World) (K : Value → World → Prop) : cmp_isNaN_int x1 w K = denF Tryd.prog callB Tryd.f64 .none [(Value.int .i64 x1)] w K := by kernel_rfl
theorem cmp_isNaN_int_ok (x1 : Int) {w : World} {R : Ending → World → Prop} (h : cmp_isNaN_int x1 w fun v w' => R (.returned v) w') : Calls Tryd.prog fn_cmp_isNaN_int ⟨[(Value.int .i64 x1)]⟩ w R :=
  calls_of_den callB_ok mixed Tryd.func64 (cmp_isNaN_int_eq x1 w _ ▸ h)

/-- slices.SortStableFunc[[]*tidewater/segs.segment,*tidewater/segs.segment] -/
def slices_SortStableFunc_segment_segs_Open_1 (x1 : Slc) (w : World) (K : Value → World → Prop) : Prop :=
  Calls Tryd.prog fn_slices_stableCmpFunc_segment ⟨[(Slc.v x1), (Value.int .i64 ((x1.l : Nat) : Int)), (Value.func (.func 41) ⟨[]⟩ ⟨[]⟩)]⟩ w fun e2 w3 =>
  e2 = .returned (Value.tuple #[]) ∧
  K (Value.tuple #[]) w3

theorem slices_SortStableFunc_segment_segs_Open_1_eq (x1 : Slc) (w : World) (K : Value → World → Prop) : slices_SortStableFunc_segment_segs_Open_1 x1 w K = denF Tryd.prog callB Tryd.f40 .none [(Slc.v x1), (Value.func (.func 41) ⟨[]⟩ ⟨[]⟩)] w K := by kernel_rfl
theorem slices_SortStableFunc_segment_segs_Open_1_ok (x1 : Slc) {w : World} {R : Ending → World → Prop} (h : slices_SortStableFunc_segment_segs_Open_1 x1 w fun v w' => R (.returned v) w') : Calls Tryd.prog fn_slices_SortStableFunc_segment ⟨[(Slc.v x1), (Value.func (.func 41) ⟨[]⟩ ⟨[]⟩)]⟩ w R :=
  calls_of_den callB_ok mixed Tryd.func40 (slices_SortStableFunc_segment_segs_Open_1_eq x1 w _ ▸ h)

/-- slices.stableCmpFunc[*tidewater/segs.segment] -/
def slices_stableCmpFunc_segment_segs_Open_1 (data1 : Slc) (n2 : Int) (w : World) (K : Value → World → Prop) : Prop :=
  ∃ (I3 : (Int) → (Int) → World → Prop) (mu4 : (Int) → (Int) → World → Nat), I3 ((0 : Int)) ((20 : Int)) w ∧ (
  ∀ a5 : Int, ∀ b6 : Int, ∀ w7 : World, I3 a5 b6 w7 → ∀ u8 u9 u10 u11 u12 u13 u14 u15 u16 u17 u18 u19 : Value,
    BIf (decide (b6 ≤ n2)) (
      Calls Tryd.prog fn_slices_insertionSortCmpFunc_segment ⟨[(Slc.v data1), (Value.int .i64 a5), (Value.int .i64 b6), (Value.func (.func 41) ⟨[]⟩ ⟨[]⟩)]⟩ w7 fun e20 w21 =>
      e20 = .returned (Value.tuple #[]) ∧
      inR .i64 (b6 + (20 : Int)) ∧
      (I3 (b6) ((b6 + (20 : Int))) w21 ∧ mu4 (b6) ((b6 + (20 : Int))) w21 < mu4 a5 b6 w7)) (
      Calls Tryd.prog fn_slices_insertionSortCmpFunc_segment ⟨[(Slc.v data1), (Value.int .i64 a5), (Value.int .i64 n2), (Value.func (.func 41) ⟨[]⟩ ⟨[]⟩)]⟩ w7 fun e22 w23 =>
      e22 = .returned (Value.tuple #[]) ∧
      ∃ (I24 : (Int) → World → Prop) (mu25 : (Int) → World → Nat), I24 ((20 : Int)) w23 ∧ (
      ∀ blockSize26 : Int, ∀ w27 : World, I24 blockSize26 w27 → ∀ u28 u29 u30 u31 u32 u33 u34 u35 u36 u37 u38 u39 u40 u41 u42 u43 u44 u45 u46 u47 u48 u49 u50 u51 u52 u53 u54 u55 u56 u57 u58 u59 u60 u61 u62 u63 u64 u65 : Value,
        BIf (decide (blockSize26 < n2)) (
          inR .i64 ((2 : Int) * blockSize26) ∧
          ∃ (I66 : (Int) → (Int) → World → Prop) (mu67 : (Int) → (Int) → World → Nat), I66 ((0 : Int)) (((2 : Int) * blockSize26)) w27 ∧ (
          ∀ a68 : Int, ∀ b69 : Int, ∀ w70 : World, I66 a68 b69 w70 → ∀ u71 u72 u73 u74 u75 u76 u77 u78 u79 u80 u81 u82 u83 u84 u85 u86 : Value,
            BIf (decide (b69 ≤ n2)) (
              inR .i64 (a68 + blockSize26) ∧
              Calls Tryd.prog fn_slices_symMergeCmpFunc_segment ⟨[(Slc.v data1), (Value.int .i64 a68), (Value.int .i64 (a68 + blockSize26)), (Value.int .i64 b69), (Value.func (.func 41) ⟨[]⟩ ⟨[]⟩)]⟩ w70 fun e87 w88 =>
              e87 = .returned (Value.tuple #[]) ∧
              inR .i64 ((2 : Int) * blockSize26) ∧
              inR .i64 (b69 + ((2 : Int) * blockSize26)) ∧
              (I66 (b69) ((b69 + ((2 : Int) * blockSize26))) w88 ∧ mu67 (b69) ((b69 + ((2 : Int) * blockSize26))) w88 < mu67 a68 b69 w70)) (
              inR .i64 (a68 + blockSize26) ∧
              BIf (decide ((a68 + blockSize26) < n2)) (
                Calls Tryd.prog fn_slices_symMergeCmpFunc_segment ⟨[(Slc.v data1), (Value.int .i64 a68), (Value.int .i64 (a68 + blockSize26)), (Value.int .i64 n2), (Value.func (.func 41) ⟨[]⟩ ⟨[]⟩)]⟩ w70 fun e89 w90 =>
                e89 = .returned (Value.tuple #[]) ∧
                inR .i64 (blockSize26 * (2 : Int)) ∧
                (I24 ((blockSize26 * (2 : Int))) w90 ∧ mu25 ((blockSize26 * (2 : Int))) w90 < mu25 blockSize26 w27)) (
                inR .i64 (blockSize26 * (2 : Int)) ∧
                (I24 ((blockSize26 * (2 : Int))) w70 ∧ mu25 ((blockSize26 * (2 : Int))) w70 < mu25 blockSize26 w27))))) (
          K (Value.tuple #[]) w27))))

theorem slices_stableCmpFunc_segment_segs_Open_1_eq (data1 : Slc) (n2 : Int) (w : World) (K : Value → World → Prop) : slices_stableCmpFunc_segment_segs_Open_1 data1 n2 w K = denF Tryd.prog callB Tryd.f63 (.two .none (.two .none (.two (.one (.loop [(7, (Sh.int .i64)), (8, (Sh.int .i64))] [11, 12, 13, 14, 15, 16, 17, 18, 19, 20, 21, 22] .none)) (.two .none (.one (.loop [(6, (Sh.int .i64))] [7, 8, 9, 28, 29, 30, 31, 32, 33, 34, 35, 36, 37, 38, 39, 40, 41, 42, 43, 44, 45, 46, 47, 48, 49, 50, 51, 52, 53, 54, 55, 56, 57, 58, 59, 60, 61, 62] (.two .none (.one (.two .none (.two (.one (.loop [(7, (Sh.int .i64)), (8, (Sh.int .i64))] [33, 34, 35, 36, 37, 38, 39, 40, 41, 42, 43, 44, 45, 46, 47, 48] .none)) .none)))))))))) [(Slc.v data1), (Value.int .i64 n2), (Value.func (.func 41) ⟨[]⟩ ⟨[]⟩)] w K := by kernel_rfl
theorem slices_stableCmpFunc_segment_segs_Open_1_ok (data1 : Slc) (n2 : Int) {w : World} {R : Ending → World → Prop} (h : slices_stableCmpFunc_segment_segs_Open_1 data1 n2 w fun v w' => R (.returned v) w') : Calls Tryd.prog fn_slices_stableCmpFunc_segment ⟨[(Slc.v data1), (Value.int .i64 n2), (Value.func (.func 41) ⟨[]⟩ ⟨[]⟩)]⟩ w R :=
  calls_of_den callB_ok mixed Tryd.func63 (slices_stableCmpFunc_segment_segs_Open_1_eq data1 n2 w _ ▸ h)

/-- slices.insertionSortCmpFunc[*tidewater/segs.segment] -/
def slices_insertionSortCmpFunc_segment_segs_Open_1 (data1 : Slc) (a2 : Int) (b3 : Int) (w : World) (K : Value → World → Prop) : Prop :=
  inR .i64 (a2 + (1 : Int)) ∧
  ∃ (I4 : (Int) → World → Prop) (mu5 : (Int) → World → Nat), I4 ((a2 + (1 : Int))) w ∧ (
  ∀ i6 : Int, ∀ w7 : World, I4 i6 w7 → ∀ u8 u9 u10 u11 u12 u13 u14 u15 u16 u17 u18 u19 u20 u21 u22 u23 u24 u25 u26 u27 u28 u29 u30 u31 u32 u33 u34 u35 u36 u37 u38 u39 u40 u41 u42 u43 u44 u45 u46 u47 u48 u49 : Value,
    BIf (decide (i6 < b3)) (
      ∃ (I50 : (Int) → World → Prop) (mu51 : (Int) → World → Nat), I50 (i6) w7 ∧ (
      ∀ j52 : Int, ∀ w53 : World, I50 j52 w53 → ∀ u54 u55 u56 u57 u58 u59 u60 u61 u62 u63 u64 u65 u66 u67 u68 u69 u70 u71 u72 u73 u74 u75 u76 u77 u78 u79 u80 u81 u82 u83 u84 u85 u86 u87 u88 : Value,
        ∃ J89 : World → Prop,
        (
          BIf (decide (a2 < j52)) (
            needSome data1.p fun a90 =>
            0 ≤ j52 ∧ j52 < ((data1.l : Nat) : Int) ∧
            ∃ p91 : Option Addr, World.cell? (World.drew w53) (Addr.add a90 ((Int.toNat j52) * 1)) = some (Value.pointer p91) ∧
            inR .i64 (j52 - (1 : Int)) ∧
            needSome data1.p fun a92 =>
            0 ≤ (j52 - (1 : Int)) ∧ (j52 - (1 : Int)) < ((data1.l : Nat) : Int) ∧
            ∃ p93 : Option Addr, World.cell? (World.drew w53) (Addr.add a92 ((Int.toNat (j52 - (1 : Int))) * 1)) = some (Value.pointer p93) ∧
            Calls Tryd.prog fn_segs_Open_1 ⟨[(Value.pointer p91), (Value.pointer p93)]⟩ (World.drew w53) fun e94 w95 =>
            ∃ n96 : Int, e94 = .returned (Value.int .i64 n96) ∧
            BIf (decide (n96 < (0 : Int))) (
              J89 w95) (
              inR .i64 (i6 + (1 : Int)) ∧
              (I4 ((i6 + (1 : Int))) w95 ∧ mu5 ((i6 + (1 : Int))) w95 < mu5 i6 w7))) (
            inR .i64 (i6 + (1 : Int)) ∧
            (I4 ((i6 + (1 : Int))) (World.drew w53) ∧ mu5 ((i6 + (1 : Int))) (World.drew w53) < mu5 i6 w7))) ∧ (
        ∀ w97 : World, J89 w97 → ∀ u98 u99 u100 u101 u102 u103 u104 u105 u106 u107 u108 u109 u110 u111 u112 u113 u114 : Value,
          inR .i64 (j52 - (1 : Int)) ∧
          inR .i64 (j52 - (1 : Int)) ∧
          needSome data1.p fun a115 =>
          0 ≤ (j52 - (1 : Int)) ∧ (j52 - (1 : Int)) < ((data1.l : Nat) : Int) ∧
          ∃ p116 : Option Addr, World.cell? (World.drew w97) (Addr.add a115 ((Int.toNat (j52 - (1 : Int))) * 1)) = some (Value.pointer p116) ∧
          needSome data1.p fun a117 =>
          0 ≤ j52 ∧ j52 < ((data1.l : Nat) : Int) ∧
          ∃ p118 : Option Addr, World.cell? (World.drew w97) (Addr.add a117 ((Int.toNat j52) * 1)) = some (Value.pointer p118) ∧
          needSome data1.p fun a119 =>
          0 ≤ j52 ∧ j52 < ((data1.l : Nat) : Int) ∧
          canW (World.drew w97) (Addr.add a119 ((Int.toNat j52) * 1)) 1 ∧ ∀ w120 : World, w120 = World.setCell (World.drew w97) (Addr.add a119 ((Int.toNat j52) * 1)) (Value.pointer p116) →
          needSome data1.p fun a121 =>
          0 ≤ (j52 - (1 : Int)) ∧ (j52 - (1 : Int)) < ((data1.l : Nat) : Int) ∧
          canW w120 (Addr.add a121 ((Int.toNat (j52 - (1 : Int))) * 1)) 1 ∧ ∀ w122 : World, w122 = World.setCell w120 (Addr.add a121 ((Int.toNat (j52 - (1 : Int))) * 1)) (Value.pointer p118) →
          inR .i64 (j52 - (1 : Int)) ∧
          (I50 ((j52 - (1 : Int))) w122 ∧ mu51 ((j52 - (1 : Int))) w122 < mu51 j52 w53)))) (
      K (Value.tuple #[]) w7))

theorem slices_insertionSortCmpFunc_segment_segs_Open_1_eq (data1 : Slc) (a2 : Int) (b3 : Int) (w : World) (K : Value → World → Prop) : slices_insertionSortCmpFunc_segment_segs_Open_1 data1 a2 b3 w K = denF Tryd.prog callB Tryd.f76 (.two .none (.one (.loop [(8, (Sh.int .i64))] [9, 12, 13, 14, 15, 16, 17, 18, 19, 20, 21, 22, 23, 24, 25, 26, 27, 28, 29, 30, 31, 32, 33, 34, 35, 36, 37, 38, 39, 40, 41, 42, 43, 44, 45, 46, 47, 48, 49, 50, 51, 52] (.two .none (.two (.one (.two .none (.one (.loop [(9, (Sh.int .i64))] [18, 19, 20, 21, 22, 23, 24, 25, 26, 27, 28, 29, 30, 31, 32, 33, 34, 35, 36, 37, 38, 39, 40, 41, 42, 43, 44, 45, 46, 47, 48, 49, 50, 51, 52] (.cut [] [18, 19, 20, 21, 22, 23, 24, 25, 26, 27, 28, 29, 30, 31, 32, 33, 34] .none .none))))) .none))))) [(Slc.v data1), (Value.int .i64 a2), (Value.int .i64 b3), (Value.func (.func 41) ⟨[]⟩ ⟨[]⟩)] w K := by kernel_rfl
theorem slices_insertionSortCmpFunc_segment_segs_Open_1_ok (data1 : Slc) (a2 : Int) (b3 : Int) {w : World} {R : Ending → World → Prop} (h : slices_insertionSortCmpFunc_segment_segs_Open_1 data1 a2 b3 w fun v w' => R (.returned v) w') : Calls Tryd.prog fn_slices_insertionSortCmpFunc_segment ⟨[(Slc.v data1), (Value.int .i64 a2), (Value.int .i64 b3), (Value.func (.func 41) ⟨[]⟩ ⟨[]⟩)]⟩ w R :=
  calls_of_den callB_ok mixed Tryd.func76 (slices_insertionSortCmpFunc_segment_segs_Open_1_eq data1 a2 b3 w _ ▸ h)

/-- tidewater/segs.Open -/
def segs_Open (d1 : Option Addr) (w : World) (K : Value → World → Prop) : Prop :=
  newS w (.cells ⟨[(Value.pointer d1), (Slc.v (⟨none, 0, 0⟩ : Slc))]⟩ 91) fun r2 w3 =>
  Calls Tryd.prog fn_segs_Store_many ⟨[(Value.pointer (some (⟨r2, 0, none⟩ : Addr)))]⟩ w3 fun e4 w5 =>
  ∃ n6 : Int, e4 = .returned (Value.int .i64 n6) ∧
  BIf (decide (n6 = (0 : Int))) (
    ∃ v7 : Value, World.cell? (World.drew w5) (⟨gl_ErrShort, 0, none⟩ : Addr) = some v7 ∧
    K (Value.tuple ⟨[(Value.pointer none), v7]⟩) (World.drew w5)) (
    Calls Tryd.prog fn_segs_Store_many ⟨[(Value.pointer (some (⟨r2, 0, none⟩ : Addr)))]⟩ w5 fun e8 w9 =>
    ∃ n10 : Int, e8 = .returned (Value.int .i64 n10) ∧
    ∃ (I11 : (Int) → World → Prop) (mu12 : (Int) → World → Nat), I11 ((0 : Int)) w9 ∧ (
    ∀ i13 : Int, ∀ w14 : World, I11 i13 w14 → ∀ u15 u16 u17 u18 u19 u20 u21 u22 u23 u24 u25 u26 u27 u28 u29 u30 u31 u32 u33 u34 u35 u36 u37 u38 u39 u40 : Value,
      BIf (decide (i13 < n10)) (
        Calls Tryd.prog fn_segs_Store_sector ⟨[(Value.pointer (some (⟨r2, 0, none⟩ : Addr))), (Value.int .i64 i13), (Value.int .i64 (0 : Int))]⟩ w14 fun e41 w42 =>
        ∃ s43 : Slc, e41 = .returned (Slc.v s43) ∧
        needSome s43.p fun a44 =>
        0 ≤ (63 : Int) ∧ (63 : Int) < ((s43.l : Nat) : Int) ∧
        ∃ n45 : Int, World.cell? w42 (a44.add 63) = some (Value.int .u8 n45) ∧
        BIf (decide (n45 = (1 : Int))) (
          ∃ s46 : Slc, World.cell? (World.drew w42) (⟨r2, 1, none⟩ : Addr) = some (Slc.v s46) ∧
          Calls Tryd.prog fn_segs_number ⟨[(Slc.v s43), (Value.int .i64 (8 : Int))]⟩ (World.drew w42) fun e47 w48 =>
          ∃ n49 : Int, e47 = .returned (Value.int .i64 n49) ∧
          (∃ s50 : Slc, World.cell? w48 (⟨r2, 1, none⟩ : Addr) = some (Slc.v s50) ∧
          (Slc.v s50) = (Slc.v s46)) ∧
          Calls Tryd.prog fn_segs_Store_read ⟨[(Value.pointer (some (⟨r2, 0, none⟩ : Addr))), (Value.int .i64 i13), (Value.int .i64 n49)]⟩ w48 fun e51 w52 =>
          ∃ p53 : Option Addr, e51 = .returned (Value.pointer p53) ∧
          (∃ s54 : Slc, World.cell? w52 (⟨r2, 1, none⟩ : Addr) = some (Slc.v s54) ∧
          (Slc.v s54) = (Slc.v s46)) ∧
          newS w52 (.cells ⟨[(Value.pointer p53)]⟩ 93) fun r55 w56 =>
          (∃ s57 : Slc, World.cell? w56 (⟨r2, 1, none⟩ : Addr) = some (Slc.v s57) ∧
          (Slc.v s57) = (Slc.v s46)) ∧
          appendS 1 93 [(Value.pointer none)] w56 s46 (.slc (⟨(some (⟨r55, 0, none⟩ : Addr)), 1, 1⟩ : Slc)) fun s58 w59 =>
          canW w59 (⟨r2, 1, none⟩ : Addr) 1 ∧ ∀ w60 : World, w60 = World.setCell w59 (⟨r2, 1, none⟩ : Addr) (Slc.v s58) →
          inR .i64 (i13 + (1 : Int)) ∧
          (I11 ((i13 + (1 : Int))) w60 ∧ mu12 ((i13 + (1 : Int))) w60 < mu12 i13 w14)) (
          inR .i64 (i13 + (1 : Int)) ∧
          (I11 ((i13 + (1 : Int))) w42 ∧ mu12 ((i13 + (1 : Int))) w42 < mu12 i13 w14))) (
        ∃ s61 : Slc, World.cell? w14 (⟨r2, 1, none⟩ : Addr) = some (Slc.v s61) ∧
        Calls Tryd.prog fn_slices_SortStableFunc_segment ⟨[(Slc.v s61), (Value.func (.func 41) ⟨[]⟩ ⟨[]⟩)]⟩ w14 fun e62 w63 =>
        e62 = .returned (Value.tuple #[]) ∧
        K (Value.tuple ⟨[(Value.pointer (some (⟨r2, 0, none⟩ : Addr))), Value.nilIface]⟩) w63)))

theorem segs_Open_eq (d1 : Option Addr) (w : World) (K : Value → World → Prop) : segs_Open d1 w K = denF Tryd.prog callB Tryd.f23 (.two .none (.two .none (.two .none (.two (.two .none (.one (.loop [(16, (Sh.int .i64))] [5, 6, 17, 18, 19, 20, 21, 22, 23, 24, 25, 26, 27, 28, 29, 30, 31, 32, 33, 34, 35, 36, 37, 38, 39, 40] .none))) .none)))) [(Value.pointer d1)] w K := by kernel_rfl
theorem segs_Open_ok (d1 : Option Addr) {w : World} {R : Ending → World → Prop} (h : segs_Open d1 w fun v w' => R (.returned v) w') : Calls Tryd.prog fn_segs_Open ⟨[(Value.pointer d1)]⟩ w R :=
  calls_of_den callB_ok mixed Tryd.func23 (segs_Open_eq d1 w _ ▸ h)

end Go.D
