/-
  WHAT IS PROVED: verification conditions of functions of this program, each with its soundness. No further conditions.
-/
import Derived.Test.YtbeciidagekppaaDoorBase
set_option linter.unusedSimpArgs false
set_option maxRecDepth 100000
set_option linter.unusedVariables false
namespace Go.D
open Go Go.Proofs
/-- tidewater/disk.New -/
def disk_New (n1 : Int) (w : World) (K : Value → World → Prop) : Prop :=
  BIf (decide (n1 < (1 : Int))) (
    ∃ v2 : Value, World.cell? (World.drew w) (⟨gl_ErrRange, 0, none⟩ : Addr) = some v2 ∧
    K (Value.tuple ⟨[(Value.pointer none), v2]⟩) (World.drew w)) (
    BIf (decide ((4096 : Int) < n1)) (
      ∃ v3 : Value, World.cell? (World.drew w) (⟨gl_ErrRange, 0, none⟩ : Addr) = some v3 ∧
      K (Value.tuple ⟨[(Value.pointer none), v3]⟩) (World.drew w)) (
      inR .i64 (n1 * (64 : Int)) ∧
      0 ≤ (n1 * (64 : Int)) ∧ (n1 * (64 : Int)) ≤ (n1 * (64 : Int)) ∧ (n1 * (64 : Int)) ≤ 2 ^ 30 ∧
      newS w (.cells ⟨repl (Int.toNat (n1 * (64 : Int))) [(Value.int .u8 (0 : Int))]⟩ 5) fun r4 w5 =>
      newS w5 (.cells ⟨[(Slc.v (⟨(some (⟨r4, 0, none⟩ : Addr)), (Int.toNat (n1 * (64 : Int))), (Int.toNat (n1 * (64 : Int)))⟩ : Slc)), (Slc.v (⟨none, 0, 0⟩ : Slc)), (Value.bool false), (Value.int .i64 (0 : Int))]⟩ 72) fun r6 w7 =>
      K (Value.tuple ⟨[(Value.pointer (some (⟨r6, 0, none⟩ : Addr))), Value.nilIface]⟩) w7))

theorem disk_New_eq (n1 : Int) (w : World) (K : Value → World → Prop) : disk_New n1 w K = denF Tryd.prog callB Tryd.f15 .none [(Value.int .i64 n1)] w K := by kernel_rfl
theorem disk_New_ok (n1 : Int) {w : World} {R : Ending → World → Prop} (h : disk_New n1 w fun v w' => R (.returned v) w') : Calls Tryd.prog fn_disk_New ⟨[(Value.int .i64 n1)]⟩ w R :=
  calls_of_den callB_ok mixed Tryd.func15 (disk_New_eq n1 w _ ▸ h)

/-- (*tidewater/disk.Device).Len -/
def disk_Device_Len (d1 : Option Addr) (w : World) (K : Value → World → Prop) : Prop :=
  needSome d1 fun a2 =>
  ∃ s3 : Slc, World.cell? w a2 = some (Slc.v s3) ∧
  0 ≤ ((s3.l : Nat) : Int) ∧ 0 < (64 : Int) ∧ inR .i64 ((s3.l : Nat) : Int) ∧
  K (Value.int .i64 (((s3.l : Nat) : Int) / (64 : Int))) w

theorem disk_Device_Len_eq (d1 : Option Addr) (w : World) (K : Value → World → Prop) : disk_Device_Len d1 w K = denF Tryd.prog callB Tryd.f60 .none [(Value.pointer d1)] w K := by kernel_rfl
theorem disk_Device_Len_ok (d1 : Option Addr) {w : World} {R : Ending → World → Prop} (h : disk_Device_Len d1 w fun v w' => R (.returned v) w') : Calls Tryd.prog fn_disk_Device_Len ⟨[(Value.pointer d1)]⟩ w R :=
  calls_of_den callB_ok mixed Tryd.func60 (disk_Device_Len_eq d1 w _ ▸ h)

/-- (*tidewater/disk.Device).has -/
def disk_Device_has (d1 : Option Addr) (i2 : Int) (w : World) (K : Value → World → Prop) : Prop :=
  BIf (decide ((0 : Int) ≤ i2)) (
    Calls Tryd.prog fn_disk_Device_Len ⟨[(Value.pointer d1)]⟩ w fun e3 w4 =>
    ∃ n5 : Int, e3 = .returned (Value.int .i64 n5) ∧
    K (Value.bool (decide (i2 < n5))) w4) (
    K (Value.bool false) w)

theorem disk_Device_has_eq (d1 : Option Addr) (i2 : Int) (w : World) (K : Value → World → Prop) : disk_Device_has d1 i2 w K = denF Tryd.prog callB Tryd.f74 .none [(Value.pointer d1), (Value.int .i64 i2)] w K := by kernel_rfl
theorem disk_Device_has_ok (d1 : Option Addr) (i2 : Int) {w : World} {R : Ending → World → Prop} (h : disk_Device_has d1 i2 w fun v w' => R (.returned v) w') : Calls Tryd.prog fn_disk_Device_has ⟨[(Value.pointer d1), (Value.int .i64 i2)]⟩ w R :=
  calls_of_den callB_ok mixed Tryd.func74 (disk_Device_has_eq d1 i2 w _ ▸ h)

/-- (*tidewater/disk.Device).down -/
def disk_Device_down (d1 : Option Addr) (w : World) (K : Value → World → Prop) : Prop :=
  needSome d1 fun a2 =>
  ∃ b3 : Bool, World.cell? w (a2.add 2) = some (Value.bool b3) ∧
  BIf (!b3) (
    K (Value.bool false) w) (
    needSome d1 fun a4 =>
    ∃ n5 : Int, World.cell? w (a4.add 3) = some (Value.int .i64 n5) ∧
    BIf (decide (n5 = (0 : Int))) (
      K (Value.bool true) w) (
      needSome d1 fun a6 =>
      ∃ n7 : Int, World.cell? w (a6.add 3) = some (Value.int .i64 n7) ∧
      inR .i64 (n7 - (1 : Int)) ∧
      needSome d1 fun a8 =>
      canW w (a8.add 3) 1 ∧ ∀ w9 : World, w9 = World.setCell w (a8.add 3) (Value.int .i64 (n7 - (1 : Int))) →
      K (Value.bool false) w9))

theorem disk_Device_down_eq (d1 : Option Addr) (w : World) (K : Value → World → Prop) : disk_Device_down d1 w K = denF Tryd.prog callB Tryd.f72 .none [(Value.pointer d1)] w K := by kernel_rfl
theorem disk_Device_down_ok (d1 : Option Addr) {w : World} {R : Ending → World → Prop} (h : disk_Device_down d1 w fun v w' => R (.returned v) w') : Calls Tryd.prog fn_disk_Device_down ⟨[(Value.pointer d1)]⟩ w R :=
  calls_of_den callB_ok mixed Tryd.func72 (disk_Device_down_eq d1 w _ ▸ h)

/-- (*tidewater/disk.Device).Write -/
def disk_Device_Write (d1 : Option Addr) (i2 : Int) (b3 : Slc) (w : World) (K : Value → World → Prop) : Prop :=
  Calls Tryd.prog fn_disk_Device_has ⟨[(Value.pointer d1), (Value.int .i64 i2)]⟩ w fun e4 w5 =>
  ∃ b6 : Bool, e4 = .returned (Value.bool b6) ∧
  BIf (!b6) (
    ∃ v7 : Value, World.cell? w5 (⟨gl_ErrRange, 0, none⟩ : Addr) = some v7 ∧
    K v7 w5) (
    BIf (!decide (((b3.l : Nat) : Int) = (64 : Int))) (
      ∃ v8 : Value, World.cell? w5 (⟨gl_ErrForm, 0, none⟩ : Addr) = some v8 ∧
      K v8 w5) (
      Calls Tryd.prog fn_disk_Device_down ⟨[(Value.pointer d1)]⟩ w5 fun e9 w10 =>
      ∃ b11 : Bool, e9 = .returned (Value.bool b11) ∧
      BIf b11 (
        ∃ v12 : Value, World.cell? w10 (⟨gl_ErrDown, 0, none⟩ : Addr) = some v12 ∧
        K v12 w10) (
        needSome d1 fun a13 =>
        ∃ s14 : Slc, World.cell? (World.drew w10) (a13.add 1) = some (Slc.v s14) ∧
        Calls Tryd.prog fn_slices_Clone_byte ⟨[(Slc.v b3)]⟩ (World.drew w10) fun e15 w16 =>
        ∃ s17 : Slc, e15 = .returned (Slc.v s17) ∧
        (∃ s18 : Slc, World.cell? w16 (a13.add 1) = some (Slc.v s18) ∧
        (Slc.v s18) = (Slc.v s14)) ∧
        newS w16 (.cells ⟨[(Value.int .i64 i2), (Slc.v s17)]⟩ 134) fun r19 w20 =>
        (∃ s21 : Slc, World.cell? w20 (a13.add 1) = some (Slc.v s21) ∧
        (Slc.v s21) = (Slc.v s14)) ∧
        appendS 2 134 [(Value.int .i64 (0 : Int)), (Slc.v (⟨none, 0, 0⟩ : Slc))] w20 s14 (.slc (⟨(some (⟨r19, 0, none⟩ : Addr)), 1, 1⟩ : Slc)) fun s22 w23 =>
        needSome d1 fun a24 =>
        canW w23 (a24.add 1) 1 ∧ ∀ w25 : World, w25 = World.setCell w23 (a24.add 1) (Slc.v s22) →
        K Value.nilIface w25)))

theorem disk_Device_Write_eq (d1 : Option Addr) (i2 : Int) (b3 : Slc) (w : World) (K : Value → World → Prop) : disk_Device_Write d1 i2 b3 w K = denF Tryd.prog callB Tryd.f71 .none [(Value.pointer d1), (Value.int .i64 i2), (Slc.v b3)] w K := by kernel_rfl
theorem disk_Device_Write_ok (d1 : Option Addr) (i2 : Int) (b3 : Slc) {w : World} {R : Ending → World → Prop} (h : disk_Device_Write d1 i2 b3 w fun v w' => R (.returned v) w') : Calls Tryd.prog fn_disk_Device_Write ⟨[(Value.pointer d1), (Value.int .i64 i2), (Slc.v b3)]⟩ w R :=
  calls_of_den callB_ok mixed Tryd.func71 (disk_Device_Write_eq d1 i2 b3 w _ ▸ h)

/-- (*tidewater/disk.Device).do -/
def disk_Device_do (d1 : Option Addr) (w2 : Int) (w3 : Slc) (cut4 : Int) (w : World) (K : Value → World → Prop) : Prop :=
  newS w (.cells ⟨[(Value.int .i64 w2), (Slc.v w3)]⟩ 134) fun r5 w6 =>
  needSome d1 fun a7 =>
  ∃ s8 : Slc, World.cell? (World.drew w6) a7 = some (Slc.v s8) ∧
  ∃ n9 : Int, World.cell? (World.drew w6) (⟨r5, 0, none⟩ : Addr) = some (Value.int .i64 n9) ∧
  inR .i64 (n9 * (64 : Int)) ∧
  0 ≤ (n9 * (64 : Int)) ∧ (n9 * (64 : Int)) ≤ ((s8.l : Nat) : Int) ∧ ((s8.l : Nat) : Int) ≤ ((s8.c : Nat) : Int) ∧ ((s8.c : Nat) : Int) ≤ ((s8.c : Nat) : Int) ∧
  ∃ s11 : Slc, World.cell? (World.drew w6) (⟨r5, 1, none⟩ : Addr) = some (Slc.v s11) ∧
  0 ≤ (0 : Int) ∧ (0 : Int) ≤ cut4 ∧ cut4 ≤ ((s11.c : Nat) : Int) ∧ ((s11.c : Nat) : Int) ≤ ((s11.c : Nat) : Int) ∧
  copyS 1 (World.drew w6) (Slc.sub s8 1 (Int.toNat (n9 * (64 : Int))) s8.l s8.c) (.slc (Slc.sub s11 1 0 (Int.toNat cut4) s11.c)) fun n13 w14 =>
  K (Value.tuple #[]) w14

theorem disk_Device_do_eq (d1 : Option Addr) (w2 : Int) (w3 : Slc) (cut4 : Int) (w : World) (K : Value → World → Prop) : disk_Device_do d1 w2 w3 cut4 w K = denF Tryd.prog callB Tryd.f73 .none [(Value.pointer d1), (Value.agg ⟨[(Value.int .i64 w2), (Slc.v w3)]⟩), (Value.int .i64 cut4)] w K := by kernel_rfl
theorem disk_Device_do_ok (d1 : Option Addr) (w2 : Int) (w3 : Slc) (cut4 : Int) {w : World} {R : Ending → World → Prop} (h : disk_Device_do d1 w2 w3 cut4 w fun v w' => R (.returned v) w') : Calls Tryd.prog fn_disk_Device_do ⟨[(Value.pointer d1), (Value.agg ⟨[(Value.int .i64 w2), (Slc.v w3)]⟩), (Value.int .i64 cut4)]⟩ w R :=
  calls_of_den callB_ok mixed Tryd.func73 (disk_Device_do_eq d1 w2 w3 cut4 w _ ▸ h)

/-- (*tidewater/disk.Device).Flush -/
def disk_Device_Flush (d1 : Option Addr) (w : World) (K : Value → World → Prop) : Prop :=
  Calls Tryd.prog fn_disk_Device_down ⟨[(Value.pointer d1)]⟩ w fun e2 w3 =>
  ∃ b4 : Bool, e2 = .returned (Value.bool b4) ∧
  BIf b4 (
    ∃ v5 : Value, World.cell? w3 (⟨gl_ErrDown, 0, none⟩ : Addr) = some v5 ∧
    K v5 w3) (
    needSome d1 fun a6 =>
    ∃ s7 : Slc, World.cell? w3 (a6.add 1) = some (Slc.v s7) ∧
    ∃ (I8 : (Int) → World → Prop) (mu9 : (Int) → World → Nat), I8 ((0 : Int)) w3 ∧ (
    ∀ i10 : Int, ∀ w11 : World, I8 i10 w11 → ∀ u12 u13 u14 u15 u16 u17 u18 u19 : Value,
      BIf (decide (i10 < ((s7.l : Nat) : Int))) (
        needSome s7.p fun a20 =>
        0 ≤ i10 ∧ i10 < ((s7.l : Nat) : Int) ∧
        ∃ n21 : Int, ∃ s22 : Slc, rowAt w11 (Addr.add a20 ((Int.toNat i10) * 2)) 0 [(Value.int .i64 n21), (Slc.v s22)] ∧
        newS w11 (.cells ⟨[(Value.int .i64 (0 : Int)), (Slc.v (⟨none, 0, 0⟩ : Slc))]⟩ 134) fun r23 w24 =>
        canW w24 (⟨r23, 0, none⟩ : Addr) 2 ∧ ∀ w25 : World, w25 = setCells w24 (⟨r23, 0, none⟩ : Addr) 0 [(Value.int .i64 n21), (Slc.v s22)] →
        ∃ n26 : Int, ∃ s27 : Slc, rowAt w25 (⟨r23, 0, none⟩ : Addr) 0 [(Value.int .i64 n26), (Slc.v s27)] ∧
        Calls Tryd.prog fn_disk_Device_do ⟨[(Value.pointer d1), (Value.agg ⟨[(Value.int .i64 n26), (Slc.v s27)]⟩), (Value.int .i64 (64 : Int))]⟩ w25 fun e28 w29 =>
        e28 = .returned (Value.tuple #[]) ∧
        inR .i64 (i10 + (1 : Int)) ∧
        (I8 ((i10 + (1 : Int))) w29 ∧ mu9 ((i10 + (1 : Int))) w29 < mu9 i10 w11)) (
        needSome d1 fun a30 =>
        canW w11 (a30.add 1) 1 ∧ ∀ w31 : World, w31 = World.setCell w11 (a30.add 1) (Slc.v (⟨none, 0, 0⟩ : Slc)) →
        K Value.nilIface w31)))

theorem disk_Device_Flush_eq (d1 : Option Addr) (w : World) (K : Value → World → Prop) : disk_Device_Flush d1 w K = denF Tryd.prog callB Tryd.f55 (.two .none (.two .none (.two (.two .none (.one (.loop [(13, (Sh.int .i64))] [4, 14, 15, 16, 17, 18, 19, 20] .none))) .none))) [(Value.pointer d1)] w K := by kernel_rfl
theorem disk_Device_Flush_ok (d1 : Option Addr) {w : World} {R : Ending → World → Prop} (h : disk_Device_Flush d1 w fun v w' => R (.returned v) w') : Calls Tryd.prog fn_disk_Device_Flush ⟨[(Value.pointer d1)]⟩ w R :=
  calls_of_den callB_ok mixed Tryd.func55 (disk_Device_Flush_eq d1 w _ ▸ h)

/-- (*tidewater/disk.Device).Read -/
def disk_Device_Read (d1 : Option Addr) (i2 : Int) (w : World) (K : Value → World → Prop) : Prop :=
  newS w (.cells ⟨[(Value.int .i64 i2)]⟩ 3) fun r3 w4 =>
  newS w4 (.cells ⟨[(Slc.v (⟨none, 0, 0⟩ : Slc))]⟩ 36) fun r5 w6 =>
  newS w6 (.cells ⟨[Value.nilIface]⟩ 34) fun r7 w8 =>
  ∃ n9 : Int, World.cell? w8 (⟨r3, 0, none⟩ : Addr) = some (Value.int .i64 n9) ∧
  Calls Tryd.prog fn_disk_Device_has ⟨[(Value.pointer d1), (Value.int .i64 n9)]⟩ w8 fun e10 w11 =>
  ∃ b12 : Bool, e10 = .returned (Value.bool b12) ∧
  BIf (!b12) (
    ∃ v13 : Value, World.cell? (World.drew w11) (⟨gl_ErrRange, 0, none⟩ : Addr) = some v13 ∧
    canW (World.drew w11) (⟨r5, 0, none⟩ : Addr) 1 ∧ ∀ w14 : World, w14 = World.setCell (World.drew w11) (⟨r5, 0, none⟩ : Addr) (Slc.v (⟨none, 0, 0⟩ : Slc)) →
    (∃ v15 : Value, World.cell? w14 (⟨gl_ErrRange, 0, none⟩ : Addr) = some v15 ∧
    v15 = v13) ∧
    oneK v13 (
    oneK v13 (
    canW w14 (⟨r7, 0, none⟩ : Addr) 1 ∧ ∀ w16 : World, w16 = World.setCell w14 (⟨r7, 0, none⟩ : Addr) v13 →
    ∃ s17 : Slc, World.cell? w16 (⟨r5, 0, none⟩ : Addr) = some (Slc.v s17) ∧
    ∃ v18 : Value, World.cell? w16 (⟨r7, 0, none⟩ : Addr) = some v18 ∧
    K (Value.tuple ⟨[(Slc.v s17), v18]⟩) w16))) (
    needSome d1 fun a19 =>
    ∃ s20 : Slc, World.cell? w11 (a19.add 1) = some (Slc.v s20) ∧
    Calls Tryd.prog fn_slices_Backward_write ⟨[(Slc.v s20)]⟩ w11 fun e21 w22 =>
    ∃ e23 : Value, e21 = .returned e23 ∧
    ∃ (gf47 : Nat) (first48 cap49 : List Value), e23 = .func (.func gf47) ⟨first48⟩ ⟨cap49⟩ ∧ callB gf47 = true ∧
    ∀ (D24 lr25 : Nat) (rc26 : Rec) (w27 : World), D24 = (World.heap w22).size → lr25 = D24 + 1 → w27 = World.alloc (World.alloc w22 (.deferred (some []))) (.loop (rc26 .ready none)) →
    (∀ n30 : Int, ∀ x31 : Int, ∀ x32 : Slc, ∀ (w28 : World) (R29 : Ending → World → Prop), (World.heap w28)[lr25]? = some (.loop (rc26 .ready none)) → (
      newS w28 (.cells ⟨[(Value.int .i64 (0 : Int)), (Slc.v (⟨none, 0, 0⟩ : Slc))]⟩ 134) fun r33 w34 =>
      canW w34 (⟨r33, 0, none⟩ : Addr) 2 ∧ ∀ w35 : World, w35 = setCells w34 (⟨r33, 0, none⟩ : Addr) 0 [(Value.int .i64 x31), (Slc.v x32)] →
      (World.heap w35)[lr25]? = some (.loop (rc26 .ready none)) ∧ ∀ w36 : World, w36 = World.putObj w35 lr25 (.loop (rc26 .busy none)) →
      ∃ n37 : Int, World.cell? w36 (⟨r33, 0, none⟩ : Addr) = some (Value.int .i64 n37) ∧
      ∃ n38 : Int, World.cell? w36 (⟨r3, 0, none⟩ : Addr) = some (Value.int .i64 n38) ∧
      BIf (decide (n37 = n38)) (
        ∃ s39 : Slc, World.cell? w36 (⟨r33, 1, none⟩ : Addr) = some (Slc.v s39) ∧
        Calls Tryd.prog fn_slices_Clone_byte ⟨[(Slc.v s39)]⟩ w36 fun e40 w41 =>
        ∃ s42 : Slc, e40 = .returned (Slc.v s42) ∧
        canW w41 (⟨r5, 0, none⟩ : Addr) 1 ∧ ∀ w43 : World, w43 = World.setCell w41 (⟨r5, 0, none⟩ : Addr) (Slc.v s42) →
        canW w43 (⟨r7, 0, none⟩ : Addr) 1 ∧ ∀ w44 : World, w44 = World.setCell w43 (⟨r7, 0, none⟩ : Addr) Value.nilIface →
        (World.heap w44)[lr25]? = some (.loop (rc26 .busy none)) ∧ ∀ w45 : World, w45 = World.putObj w44 lr25 (.loop (rc26 .done (some Code.ret))) → R29 (.returned (.bool false)) w45) (
        (World.heap w36)[lr25]? = some (.loop (rc26 .busy none)) ∧ ∀ w46 : World, w46 = World.putObj w36 lr25 (.loop (rc26 .ready none)) → R29 (.returned (.bool true)) w46)) → YieldC Tryd.prog lr25 ⟨[(Value.int .i64 n30), (Value.agg ⟨[(Value.int .i64 x31), (Slc.v x32)]⟩)]⟩ w28 R29) →
    Calls Tryd.prog gf47 ⟨first48 ++ Value.func (.yield lr25) #[] #[] :: cap49⟩ w27 fun e50 w51 => (∃ v, e50 = .returned v) ∧ (
      ((World.heap w51)[lr25]? = some (.loop (rc26 .done (some Code.ret))) ∧ ∀ w52 : World, w52 = World.putObj w51 lr25 (.loop (rc26 .exhausted (some Code.ret))) →
      (World.heap w52)[D24]? = some (.deferred (some [])) ∧ ∀ w53 : World, w53 = World.putObj w52 D24 (.deferred none) →
      ∃ s54 : Slc, World.cell? w53 (⟨r5, 0, none⟩ : Addr) = some (Slc.v s54) ∧
      ∃ v55 : Value, World.cell? w53 (⟨r7, 0, none⟩ : Addr) = some v55 ∧
      K (Value.tuple ⟨[(Slc.v s54), v55]⟩) w53) ∨
      ((World.heap w51)[lr25]? = some (.loop (rc26 .ready none)) ∧ ∀ w56 : World, w56 = World.putObj w51 lr25 (.loop (rc26 .exhausted none)) →
      needSome d1 fun a57 =>
      ∃ s58 : Slc, World.cell? (World.drew w56) a57 = some (Slc.v s58) ∧
      ∃ n59 : Int, World.cell? (World.drew w56) (⟨r3, 0, none⟩ : Addr) = some (Value.int .i64 n59) ∧
      inR .i64 (n59 * (64 : Int)) ∧
      ∃ n60 : Int, World.cell? (World.drew w56) (⟨r3, 0, none⟩ : Addr) = some (Value.int .i64 n60) ∧
      inR .i64 (n60 + (1 : Int)) ∧
      inR .i64 ((n60 + (1 : Int)) * (64 : Int)) ∧
      0 ≤ (n59 * (64 : Int)) ∧ (n59 * (64 : Int)) ≤ ((n60 + (1 : Int)) * (64 : Int)) ∧ ((n60 + (1 : Int)) * (64 : Int)) ≤ ((s58.c : Nat) : Int) ∧ ((s58.c : Nat) : Int) ≤ ((s58.c : Nat) : Int) ∧
      Calls Tryd.prog fn_slices_Clone_byte ⟨[(Slc.v (Slc.sub s58 1 (Int.toNat (n59 * (64 : Int))) (Int.toNat ((n60 + (1 : Int)) * (64 : Int))) s58.c))]⟩ (World.drew w56) fun e62 w63 =>
      ∃ s64 : Slc, e62 = .returned (Slc.v s64) ∧
      canW w63 (⟨r5, 0, none⟩ : Addr) 1 ∧ ∀ w65 : World, w65 = World.setCell w63 (⟨r5, 0, none⟩ : Addr) (Slc.v s64) →
      canW w65 (⟨r7, 0, none⟩ : Addr) 1 ∧ ∀ w66 : World, w66 = World.setCell w65 (⟨r7, 0, none⟩ : Addr) Value.nilIface →
      (World.heap w66)[D24]? = some (.deferred (some [])) ∧ ∀ w67 : World, w67 = World.putObj w66 D24 (.deferred none) →
      ∃ s68 : Slc, World.cell? w67 (⟨r5, 0, none⟩ : Addr) = some (Slc.v s68) ∧
      ∃ v69 : Value, World.cell? w67 (⟨r7, 0, none⟩ : Addr) = some v69 ∧
      K (Value.tuple ⟨[(Slc.v s68), v69]⟩) w67)))

theorem disk_Device_Read_eq (d1 : Option Addr) (i2 : Int) (w : World) (K : Value → World → Prop) : disk_Device_Read d1 i2 w K = denF2 Tryd.prog callB Tryd.f61 (.two .none (.two .none (.two (.two .none (.one (.range [.one (Sh.int .i64), .agg [(Sh.int .i64), Sh.slc]] [.ret] .none .none))) .none))) [(Value.pointer d1), (Value.int .i64 i2)] w K := by kernel_rfl
theorem disk_Device_Read_ok (d1 : Option Addr) (i2 : Int) {w : World} {R : Ending → World → Prop} (h : disk_Device_Read d1 i2 w fun v w' => R (.returned v) w') : Calls Tryd.prog fn_disk_Device_Read ⟨[(Value.pointer d1), (Value.int .i64 i2)]⟩ w R :=
  calls_of_den2 callB_ok mixed Tryd.func61 (disk_Device_Read_eq d1 i2 w _ ▸ h)

/-- slices.Backward[[]tidewater/disk.write,tidewater/disk.write] -/
def slices_Backward_write (s1 : Slc) (w : World) (K : Value → World → Prop) : Prop :=
  newS w (.cells ⟨[(Slc.v s1)]⟩ 70) fun r2 w3 =>
  K (Value.func (.func 80) ⟨[]⟩ ⟨[(Value.pointer (some (⟨r2, 0, none⟩ : Addr)))]⟩) w3

theorem slices_Backward_write_eq (s1 : Slc) (w : World) (K : Value → World → Prop) : slices_Backward_write s1 w K = denF Tryd.prog callB Tryd.f75 .none [(Slc.v s1)] w K := by kernel_rfl
theorem slices_Backward_write_ok (s1 : Slc) {w : World} {R : Ending → World → Prop} (h : slices_Backward_write s1 w fun v w' => R (.returned v) w') : Calls Tryd.prog fn_slices_Backward_write ⟨[(Slc.v s1)]⟩ w R :=
  calls_of_den callB_ok mixed Tryd.func75 (slices_Backward_write_eq s1 w _ ▸ h)

/-- slices.Backward[[]tidewater/disk.write,tidewater/disk.write]$1 -/
def slices_Backward_write_1 (lr1 : Nat) (cap2 : Option Addr) (w : World) (K : Value → World → Prop) : Prop :=
  needSome cap2 fun a3 =>
  ∃ s4 : Slc, World.cell? w a3 = some (Slc.v s4) ∧
  inR .i64 (((s4.l : Nat) : Int) - (1 : Int)) ∧
  ∃ (I5 : (Int) → World → Prop) (mu6 : (Int) → World → Nat), I5 ((((s4.l : Nat) : Int) - (1 : Int))) w ∧ (
  ∀ i7 : Int, ∀ w8 : World, I5 i7 w8 → ∀ u9 u10 u11 u12 u13 u14 u15 u16 u17 u18 u19 u20 : Value,
    BIf (decide ((0 : Int) ≤ i7)) (
      needSome cap2 fun a21 =>
      ∃ s22 : Slc, World.cell? w8 a21 = some (Slc.v s22) ∧
      needSome s22.p fun a23 =>
      0 ≤ i7 ∧ i7 < ((s22.l : Nat) : Int) ∧
      ∃ n24 : Int, ∃ s25 : Slc, rowAt w8 (Addr.add a23 ((Int.toNat i7) * 2)) 0 [(Value.int .i64 n24), (Slc.v s25)] ∧
      YieldC Tryd.prog lr1 ⟨[(Value.int .i64 i7), (Value.agg ⟨[(Value.int .i64 n24), (Slc.v s25)]⟩)]⟩ w8 fun e26 w27 =>
      ∃ b28 : Bool, e26 = .returned (.bool b28) ∧
      BIf (!b28) (
        K (Value.tuple #[]) w27) (
        inR .i64 (i7 - (1 : Int)) ∧
        (I5 ((i7 - (1 : Int))) w27 ∧ mu6 ((i7 - (1 : Int))) w27 < mu6 i7 w8))) (
      K (Value.tuple #[]) w8))

theorem slices_Backward_write_1_eq (lr1 : Nat) (cap2 : Option Addr) (w : World) (K : Value → World → Prop) : slices_Backward_write_1 lr1 cap2 w K = denY Tryd.prog callB Tryd.f80 (.two .none (.one (.loop [(3, (Sh.int .i64))] [7, 8, 9, 10, 11, 12, 13, 14, 15, 16, 17, 18] .none))) [(Value.func (.yield lr1) ⟨[]⟩ ⟨[]⟩), (Value.pointer cap2)] w K := by kernel_rfl
theorem slices_Backward_write_1_ok (lr1 : Nat) (cap2 : Option Addr) {w : World} {R : Ending → World → Prop} (h : slices_Backward_write_1 lr1 cap2 w fun v w' => R (.returned v) w') : Calls Tryd.prog fn_slices_Backward_write_1 ⟨[(Value.func (.yield lr1) ⟨[]⟩ ⟨[]⟩), (Value.pointer cap2)]⟩ w R :=
  calls_of_denY callB_ok mixed Tryd.func80 (slices_Backward_write_1_eq lr1 cap2 w _ ▸ h)

end Go.D
