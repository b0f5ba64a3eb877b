/-
  WHAT IS PROVED: verification conditions of functions of this program, each with its soundness. No further conditions.
-/
import Derived.Test.YtbeciidagekppaaDoorBase
set_option linter.unusedSimpArgs false
set_option maxRecDepth 100000
set_option linter.unusedVariables false
namespace Go.D
open Go Go.Proofs
/-- tidewater/segs.sectors -/
def segs_sectors (n1 : Int) (w : World) (K : Value → World → Prop) : Prop :=
  inR .i64 (n1 + (64 : Int)) ∧
  inR .i64 ((n1 + (64 : Int)) - (1 : Int)) ∧
  0 ≤ ((n1 + (64 : Int)) - (1 : Int)) ∧ 0 < (64 : Int) ∧ inR .i64 ((n1 + (64 : Int)) - (1 : Int)) ∧
  K (Value.int .i64 (((n1 + (64 : Int)) - (1 : Int)) / (64 : Int))) w

theorem segs_sectors_eq (n1 : Int) (w : World) (K : Value → World → Prop) : segs_sectors n1 w K = denF Tryd.prog callB Tryd.f51 .none [(Value.int .i64 n1)] w K := by kernel_rfl
theorem segs_sectors_ok (n1 : Int) {w : World} {R : Ending → World → Prop} (h : segs_sectors n1 w fun v w' => R (.returned v) w') : Calls Tryd.prog fn_segs_sectors ⟨[(Value.int .i64 n1)]⟩ w R :=
  calls_of_den callB_ok mixed Tryd.func51 (segs_sectors_eq n1 w _ ▸ h)

/-- tidewater/segs.head -/
def segs_head (n1 : Int) (m2 : Int) (w : World) (K : Value → World → Prop) : Prop :=
  0 ≤ (64 : Int) ∧ (64 : Int) ≤ (64 : Int) ∧ (64 : Int) ≤ 2 ^ 30 ∧
  newS w (.cells ⟨repl 64 [(Value.int .u8 (0 : Int))]⟩ 5) fun r3 w4 =>
  ∃ (I5 : (Int) → World → Prop) (mu6 : (Int) → World → Nat), I5 ((0 : Int)) w4 ∧ (
  ∀ i7 : Int, ∀ w8 : World, I5 i7 w8 → ∀ u9 u10 u11 u12 u13 u14 u15 u16 u17 u18 u19 u20 : Value,
    BIf (decide (i7 < (8 : Int))) (
      inR .i64 ((8 : Int) * i7) ∧
      0 ≤ ((8 : Int) * i7) ∧ 0 ≤ n1 ∧
      0 ≤ i7 ∧ i7 < ((64 : Nat) : Int) ∧
      canW w8 (Addr.add (⟨r3, 0, none⟩ : Addr) ((Int.toNat i7) * 1)) 1 ∧ ∀ w21 : World, w21 = World.setCell w8 (Addr.add (⟨r3, 0, none⟩ : Addr) ((Int.toNat i7) * 1)) (Value.int .u8 (IntKind.wrap .u8 (n1 / ((2 ^ min (Int.toNat ((8 : Int) * i7)) 64 : Nat) : Int)))) →
      inR .i64 (i7 + (1 : Int)) ∧
      (I5 ((i7 + (1 : Int))) w21 ∧ mu6 ((i7 + (1 : Int))) w21 < mu6 i7 w8)) (
      0 ≤ (63 : Int) ∧ (63 : Int) < ((64 : Nat) : Int) ∧
      canW w8 (⟨r3, 63, none⟩ : Addr) 1 ∧ ∀ w22 : World, w22 = World.setCell w8 (⟨r3, 63, none⟩ : Addr) (Value.int .u8 m2) →
      K (Slc.v (⟨(some (⟨r3, 0, none⟩ : Addr)), 64, 64⟩ : Slc)) w22))

theorem segs_head_eq (n1 : Int) (m2 : Int) (w : World) (K : Value → World → Prop) : segs_head n1 m2 w K = denF Tryd.prog callB Tryd.f57 (.two .none (.two .none (.two (.two .none (.one (.loop [(8, (Sh.int .i64))] [6, 9, 10, 11, 12, 13, 14, 15, 16, 17, 18, 19] .none))) .none))) [(Value.int .i64 n1), (Value.int .u8 m2)] w K := by kernel_rfl
theorem segs_head_ok (n1 : Int) (m2 : Int) {w : World} {R : Ending → World → Prop} (h : segs_head n1 m2 w fun v w' => R (.returned v) w') : Calls Tryd.prog fn_segs_head ⟨[(Value.int .i64 n1), (Value.int .u8 m2)]⟩ w R :=
  calls_of_den callB_ok mixed Tryd.func57 (segs_head_eq n1 m2 w _ ▸ h)

/-- tidewater/segs.number -/
def segs_number (b1 : Slc) (many2 : Int) (w : World) (K : Value → World → Prop) : Prop :=
  ∃ (I3 : (Int) → (Int) → World → Prop) (mu4 : (Int) → (Int) → World → Nat), I3 ((0 : Int)) ((0 : Int)) w ∧ (
  ∀ n5 : Int, ∀ i6 : Int, ∀ w7 : World, I3 n5 i6 w7 → ∀ u8 u9 u10 u11 u12 u13 u14 u15 u16 u17 u18 u19 u20 u21 : Value,
    BIf (decide (i6 < many2)) (
      needSome b1.p fun a22 =>
      0 ≤ i6 ∧ i6 < ((b1.l : Nat) : Int) ∧
      ∃ n23 : Int, World.cell? w7 (Addr.add a22 ((Int.toNat i6) * 1)) = some (Value.int .u8 n23) ∧
      inR .i64 n23 ∧
      inR .i64 ((8 : Int) * i6) ∧
      0 ≤ ((8 : Int) * i6) ∧
      inR .i64 (n23 * ((2 ^ min (Int.toNat ((8 : Int) * i6)) 64 : Nat) : Int)) ∧
      0 ≤ n5 ∧ 0 ≤ (n23 * ((2 ^ min (Int.toNat ((8 : Int) * i6)) 64 : Nat) : Int)) ∧ inR .i64 n5 ∧ inR .i64 (n23 * ((2 ^ min (Int.toNat ((8 : Int) * i6)) 64 : Nat) : Int)) ∧
      inR .i64 (i6 + (1 : Int)) ∧
      (I3 ((bitsI .or n5 (n23 * ((2 ^ min (Int.toNat ((8 : Int) * i6)) 64 : Nat) : Int)))) ((i6 + (1 : Int))) w7 ∧ mu4 ((bitsI .or n5 (n23 * ((2 ^ min (Int.toNat ((8 : Int) * i6)) 64 : Nat) : Int)))) ((i6 + (1 : Int))) w7 < mu4 n5 i6 w7)) (
      K (Value.int .i64 n5) w7))

theorem segs_number_eq (b1 : Slc) (many2 : Int) (w : World) (K : Value → World → Prop) : segs_number b1 many2 w K = denF Tryd.prog callB Tryd.f39 (.two .none (.two .none (.two (.two .none (.one (.loop [(5, (Sh.int .i64)), (8, (Sh.int .i64))] [6, 9, 10, 11, 12, 13, 14, 15, 16, 17, 18, 19, 20, 21] .none))) .none))) [(Slc.v b1), (Value.int .i64 many2)] w K := by kernel_rfl
theorem segs_number_ok (b1 : Slc) (many2 : Int) {w : World} {R : Ending → World → Prop} (h : segs_number b1 many2 w fun v w' => R (.returned v) w') : Calls Tryd.prog fn_segs_number ⟨[(Slc.v b1), (Value.int .i64 many2)]⟩ w R :=
  calls_of_den callB_ok mixed Tryd.func39 (segs_number_eq b1 many2 w _ ▸ h)

/-- (*tidewater/segs.Store).sector -/
def segs_Store_sector (s1 : Option Addr) (place2 : Int) (i3 : Int) (w : World) (K : Value → World → Prop) : Prop :=
  needSome s1 fun a4 =>
  ∃ p5 : Option Addr, World.cell? w a4 = some (Value.pointer p5) ∧
  inR .i64 (place2 * (64 : Int)) ∧
  inR .i64 ((place2 * (64 : Int)) + i3) ∧
  Calls Tryd.prog fn_disk_Device_Read ⟨[(Value.pointer p5), (Value.int .i64 ((place2 * (64 : Int)) + i3))]⟩ w fun e6 w7 =>
  ∃ s8 : Slc, ∃ e9 : Value, e6 = .returned (Value.tuple ⟨[(Slc.v s8), e9]⟩) ∧
  isI e9 ∧
  BIf (!isNilI e9) (
    0 ≤ (64 : Int) ∧ (64 : Int) ≤ (64 : Int) ∧ (64 : Int) ≤ 2 ^ 30 ∧
    newS w7 (.cells ⟨repl 64 [(Value.int .u8 (0 : Int))]⟩ 5) fun r10 w11 =>
    K (Slc.v (⟨(some (⟨r10, 0, none⟩ : Addr)), 64, 64⟩ : Slc)) w11) (
    K (Slc.v s8) w7)

theorem segs_Store_sector_eq (s1 : Option Addr) (place2 : Int) (i3 : Int) (w : World) (K : Value → World → Prop) : segs_Store_sector s1 place2 i3 w K = denF Tryd.prog callB Tryd.f37 .none [(Value.pointer s1), (Value.int .i64 place2), (Value.int .i64 i3)] w K := by kernel_rfl
theorem segs_Store_sector_ok (s1 : Option Addr) (place2 : Int) (i3 : Int) {w : World} {R : Ending → World → Prop} (h : segs_Store_sector s1 place2 i3 w fun v w' => R (.returned v) w') : Calls Tryd.prog fn_segs_Store_sector ⟨[(Value.pointer s1), (Value.int .i64 place2), (Value.int .i64 i3)]⟩ w R :=
  calls_of_den callB_ok mixed Tryd.func37 (segs_Store_sector_eq s1 place2 i3 w _ ▸ h)

/-- (*tidewater/segs.Store).record -/
def segs_Store_record (s1 : Option Addr) (place2 : Int) (at3 : Int) (w : World) (K : Value → World → Prop) : Prop :=
  BIf (decide ((64 : Int) ≤ at3)) (
    K (Value.tuple ⟨[(Slc.v (⟨none, 0, 0⟩ : Slc)), (Value.int .i64 (0 : Int)), (Value.bool false)]⟩) w) (
    Calls Tryd.prog fn_segs_Store_sector ⟨[(Value.pointer s1), (Value.int .i64 place2), (Value.int .i64 at3)]⟩ w fun e4 w5 =>
    ∃ s6 : Slc, e4 = .returned (Slc.v s6) ∧
    Calls Tryd.prog fn_segs_number ⟨[(Slc.v s6), (Value.int .i64 (2 : Int))]⟩ w5 fun e7 w8 =>
    ∃ n9 : Int, e7 = .returned (Value.int .i64 n9) ∧
    inR .i64 (at3 + (1 : Int)) ∧
    Calls Tryd.prog fn_segs_sectors ⟨[(Value.int .i64 n9)]⟩ w8 fun e10 w11 =>
    ∃ n12 : Int, e10 = .returned (Value.int .i64 n12) ∧
    inR .i64 ((at3 + (1 : Int)) + n12) ∧
    ∃ J13 : World → Prop,
    (
      needSome s6.p fun a14 =>
      0 ≤ (63 : Int) ∧ (63 : Int) < ((s6.l : Nat) : Int) ∧
      ∃ n15 : Int, World.cell? w11 (a14.add 63) = some (Value.int .u8 n15) ∧
      BIf (!decide (n15 = (1 : Int))) (
        K (Value.tuple ⟨[(Slc.v (⟨none, 0, 0⟩ : Slc)), (Value.int .i64 (0 : Int)), (Value.bool false)]⟩) w11) (
        BIf (decide (n9 = (0 : Int))) (
          K (Value.tuple ⟨[(Slc.v (⟨none, 0, 0⟩ : Slc)), (Value.int .i64 (0 : Int)), (Value.bool false)]⟩) w11) (
          BIf (decide ((64 : Int) < ((at3 + (1 : Int)) + n12))) (
            K (Value.tuple ⟨[(Slc.v (⟨none, 0, 0⟩ : Slc)), (Value.int .i64 (0 : Int)), (Value.bool false)]⟩) w11) (
            J13 w11)))) ∧ (
    ∀ w16 : World, J13 w16 → ∀ u17 u18 u19 u20 u21 u22 u23 u24 u25 u26 u27 u28 u29 u30 u31 : Value,
      inR .i64 (at3 + (1 : Int)) ∧
      ∃ (I32 : (Slc) → (Int) → World → Prop) (mu33 : (Slc) → (Int) → World → Nat), I32 ((⟨none, 0, 0⟩ : Slc)) ((at3 + (1 : Int))) w16 ∧ (
      ∀ b34 : Slc, ∀ i35 : Int, ∀ w36 : World, I32 b34 i35 w36 → ∀ u37 u38 u39 u40 u41 u42 u43 u44 u45 u46 u47 : Value,
        BIf (decide (i35 < ((at3 + (1 : Int)) + n12))) (
          Calls Tryd.prog fn_segs_Store_sector ⟨[(Value.pointer s1), (Value.int .i64 place2), (Value.int .i64 i35)]⟩ w36 fun e48 w49 =>
          ∃ s50 : Slc, e48 = .returned (Slc.v s50) ∧
          appendS 1 5 [(Value.int .u8 (0 : Int))] w49 b34 (.slc s50) fun s51 w52 =>
          inR .i64 (i35 + (1 : Int)) ∧
          (I32 (s51) ((i35 + (1 : Int))) w52 ∧ mu33 (s51) ((i35 + (1 : Int))) w52 < mu33 b34 i35 w36)) (
          0 ≤ (0 : Int) ∧ (0 : Int) ≤ n9 ∧ n9 ≤ ((b34.c : Nat) : Int) ∧ ((b34.c : Nat) : Int) ≤ ((b34.c : Nat) : Int) ∧
          K (Value.tuple ⟨[(Slc.v (Slc.sub b34 1 0 (Int.toNat n9) b34.c)), (Value.int .i64 ((at3 + (1 : Int)) + n12)), (Value.bool true)]⟩) w36))))

theorem segs_Store_record_eq (s1 : Option Addr) (place2 : Int) (at3 : Int) (w : World) (K : Value → World → Prop) : segs_Store_record s1 place2 at3 w K = denF Tryd.prog callB Tryd.f62 (.two .none (.two .none (.two .none (.two .none (.two .none (.cut [] [6, 7, 8, 27, 28, 29, 30, 31, 32, 33, 34, 35, 36, 37, 38] .none (.two .none (.two (.two .none (.one (.loop [(12, Sh.slc), (13, (Sh.int .i64))] [41, 42, 43, 44, 45, 46, 47, 48, 49, 50, 51] .none))) .none)))))))) [(Value.pointer s1), (Value.int .i64 place2), (Value.int .i64 at3)] w K := by kernel_rfl
theorem segs_Store_record_ok (s1 : Option Addr) (place2 : Int) (at3 : Int) {w : World} {R : Ending → World → Prop} (h : segs_Store_record s1 place2 at3 w fun v w' => R (.returned v) w') : Calls Tryd.prog fn_segs_Store_record ⟨[(Value.pointer s1), (Value.int .i64 place2), (Value.int .i64 at3)]⟩ w R :=
  calls_of_den callB_ok mixed Tryd.func62 (segs_Store_record_eq s1 place2 at3 w _ ▸ h)

/-- (*tidewater/segs.Store).read -/
def segs_Store_read (s1 : Option Addr) (place2 : Int) (number3 : Int) (w : World) (K : Value → World → Prop) : Prop :=
  newS w (.cells ⟨[(Value.int .i64 place2), (Value.int .i64 number3), (Slc.v (⟨none, 0, 0⟩ : Slc)), (Value.int .i64 (1 : Int))]⟩ 99) fun r4 w5 =>
  Calls Tryd.prog fn_segs_Store_record ⟨[(Value.pointer s1), (Value.int .i64 place2), (Value.int .i64 (1 : Int))]⟩ w5 fun e6 w7 =>
  ∃ s8 : Slc, ∃ n9 : Int, ∃ b10 : Bool, e6 = .returned (Value.tuple ⟨[(Slc.v s8), (Value.int .i64 n9), (Value.bool b10)]⟩) ∧
  ∃ (I11 : (Slc) → (Int) → (Bool) → World → Prop) (mu12 : (Slc) → (Int) → (Bool) → World → Nat), I11 (s8) (n9) (b10) w7 ∧ (
  ∀ b13 : Slc, ∀ next14 : Int, ∀ is15 : Bool, ∀ w16 : World, I11 b13 next14 is15 w16 → ∀ u17 u18 u19 u20 u21 u22 u23 u24 u25 u26 u27 u28 u29 u30 u31 u32 u33 u34 u35 u36 u37 u38 u39 : Value,
    BIf is15 (
      ∃ s40 : Slc, World.cell? w16 (⟨r4, 2, none⟩ : Addr) = some (Slc.v s40) ∧
      newS w16 (.cells ⟨[(Slc.v b13)]⟩ 36) fun r41 w42 =>
      appendS 1 36 [(Slc.v (⟨none, 0, 0⟩ : Slc))] w42 s40 (.slc (⟨(some (⟨r41, 0, none⟩ : Addr)), 1, 1⟩ : Slc)) fun s43 w44 =>
      canW w44 (⟨r4, 2, none⟩ : Addr) 1 ∧ ∀ w45 : World, w45 = World.setCell w44 (⟨r4, 2, none⟩ : Addr) (Slc.v s43) →
      canW w45 (⟨r4, 3, none⟩ : Addr) 1 ∧ ∀ w46 : World, w46 = World.setCell w45 (⟨r4, 3, none⟩ : Addr) (Value.int .i64 next14) →
      Calls Tryd.prog fn_segs_Store_record ⟨[(Value.pointer s1), (Value.int .i64 place2), (Value.int .i64 next14)]⟩ w46 fun e47 w48 =>
      ∃ s49 : Slc, ∃ n50 : Int, ∃ b51 : Bool, e47 = .returned (Value.tuple ⟨[(Slc.v s49), (Value.int .i64 n50), (Value.bool b51)]⟩) ∧
      (I11 (s49) (n50) (b51) w48 ∧ mu12 (s49) (n50) (b51) w48 < mu12 b13 next14 is15 w16)) (
      K (Value.pointer (some (⟨r4, 0, none⟩ : Addr))) w16))

theorem segs_Store_read_eq (s1 : Option Addr) (place2 : Int) (number3 : Int) (w : World) (K : Value → World → Prop) : segs_Store_read s1 place2 number3 w K = denF Tryd.prog callB Tryd.f38 (.two .none (.two .none (.two (.two .none (.one (.loop [(8, Sh.slc), (9, (Sh.int .i64)), (10, Sh.bool)] [22, 23, 24, 25, 26, 27, 28, 29, 30, 31, 32, 33, 34, 35, 36, 37, 38, 39, 40, 41, 42, 43, 44] .none))) .none))) [(Value.pointer s1), (Value.int .i64 place2), (Value.int .i64 number3)] w K := by kernel_rfl
theorem segs_Store_read_ok (s1 : Option Addr) (place2 : Int) (number3 : Int) {w : World} {R : Ending → World → Prop} (h : segs_Store_read s1 place2 number3 w fun v w' => R (.returned v) w') : Calls Tryd.prog fn_segs_Store_read ⟨[(Value.pointer s1), (Value.int .i64 place2), (Value.int .i64 number3)]⟩ w R :=
  calls_of_den callB_ok mixed Tryd.func38 (segs_Store_read_eq s1 place2 number3 w _ ▸ h)

/-- (*tidewater/segs.Store).many -/
def segs_Store_many (s1 : Option Addr) (w : World) (K : Value → World → Prop) : Prop :=
  needSome s1 fun a2 =>
  ∃ p3 : Option Addr, World.cell? w a2 = some (Value.pointer p3) ∧
  Calls Tryd.prog fn_disk_Device_Len ⟨[(Value.pointer p3)]⟩ w fun e4 w5 =>
  ∃ n6 : Int, e4 = .returned (Value.int .i64 n6) ∧
  0 ≤ n6 ∧ 0 < (64 : Int) ∧ inR .i64 n6 ∧
  K (Value.int .i64 (n6 / (64 : Int))) w5

theorem segs_Store_many_eq (s1 : Option Addr) (w : World) (K : Value → World → Prop) : segs_Store_many s1 w K = denF Tryd.prog callB Tryd.f36 .none [(Value.pointer s1)] w K := by kernel_rfl
theorem segs_Store_many_ok (s1 : Option Addr) {w : World} {R : Ending → World → Prop} (h : segs_Store_many s1 w fun v w' => R (.returned v) w') : Calls Tryd.prog fn_segs_Store_many ⟨[(Value.pointer s1)]⟩ w R :=
  calls_of_den callB_ok mixed Tryd.func36 (segs_Store_many_eq s1 w _ ▸ h)

/-- (*tidewater/segs.Store).write -/
def segs_Store_write (s1 : Option Addr) (place2 : Int) (i3 : Int) (b4 : Slc) (w : World) (K : Value → World → Prop) : Prop :=
  needSome s1 fun a5 =>
  ∃ p6 : Option Addr, World.cell? w a5 = some (Value.pointer p6) ∧
  inR .i64 (place2 * (64 : Int)) ∧
  inR .i64 ((place2 * (64 : Int)) + i3) ∧
  Calls Tryd.prog fn_disk_Device_Write ⟨[(Value.pointer p6), (Value.int .i64 ((place2 * (64 : Int)) + i3)), (Slc.v b4)]⟩ w fun e7 w8 =>
  ∃ e9 : Value, e7 = .returned e9 ∧
  K e9 w8

theorem segs_Store_write_eq (s1 : Option Addr) (place2 : Int) (i3 : Int) (b4 : Slc) (w : World) (K : Value → World → Prop) : segs_Store_write s1 place2 i3 b4 w K = denF Tryd.prog callB Tryd.f54 .none [(Value.pointer s1), (Value.int .i64 place2), (Value.int .i64 i3), (Slc.v b4)] w K := by kernel_rfl
theorem segs_Store_write_ok (s1 : Option Addr) (place2 : Int) (i3 : Int) (b4 : Slc) {w : World} {R : Ending → World → Prop} (h : segs_Store_write s1 place2 i3 b4 w fun v w' => R (.returned v) w') : Calls Tryd.prog fn_segs_Store_write ⟨[(Value.pointer s1), (Value.int .i64 place2), (Value.int .i64 i3), (Slc.v b4)]⟩ w R :=
  calls_of_den callB_ok mixed Tryd.func54 (segs_Store_write_eq s1 place2 i3 b4 w _ ▸ h)

/-- (*tidewater/segs.Store).sure -/
def segs_Store_sure (s1 : Option Addr) (place2 : Int) (i3 : Int) (b4 : Slc) (w : World) (K : Value → World → Prop) : Prop :=
  Calls Tryd.prog fn_segs_Store_write ⟨[(Value.pointer s1), (Value.int .i64 place2), (Value.int .i64 i3), (Slc.v b4)]⟩ w fun e5 w6 =>
  ∃ e7 : Value, e5 = .returned e7 ∧
  isI e7 ∧
  BIf (!isNilI e7) (
    K e7 w6) (
    needSome s1 fun a8 =>
    ∃ p9 : Option Addr, World.cell? w6 a8 = some (Value.pointer p9) ∧
    Calls Tryd.prog fn_disk_Device_Flush ⟨[(Value.pointer p9)]⟩ w6 fun e10 w11 =>
    ∃ e12 : Value, e10 = .returned e12 ∧
    K e12 w11)

theorem segs_Store_sure_eq (s1 : Option Addr) (place2 : Int) (i3 : Int) (b4 : Slc) (w : World) (K : Value → World → Prop) : segs_Store_sure s1 place2 i3 b4 w K = denF Tryd.prog callB Tryd.f56 .none [(Value.pointer s1), (Value.int .i64 place2), (Value.int .i64 i3), (Slc.v b4)] w K := by kernel_rfl
theorem segs_Store_sure_ok (s1 : Option Addr) (place2 : Int) (i3 : Int) (b4 : Slc) {w : World} {R : Ending → World → Prop} (h : segs_Store_sure s1 place2 i3 b4 w fun v w' => R (.returned v) w') : Calls Tryd.prog fn_segs_Store_sure ⟨[(Value.pointer s1), (Value.int .i64 place2), (Value.int .i64 i3), (Slc.v b4)]⟩ w R :=
  calls_of_den callB_ok mixed Tryd.func56 (segs_Store_sure_eq s1 place2 i3 b4 w _ ▸ h)

/-- (*tidewater/segs.Store).Last -/
def segs_Store_Last (s1 : Option Addr) (w : World) (K : Value → World → Prop) : Prop :=
  needSome s1 fun a2 =>
  ∃ s3 : Slc, World.cell? w (a2.add 1) = some (Slc.v s3) ∧
  BIf (decide (((s3.l : Nat) : Int) = (0 : Int))) (
    K (Value.int .i64 (-1 : Int)) w) (
    needSome s1 fun a4 =>
    ∃ s5 : Slc, World.cell? (World.drew w) (a4.add 1) = some (Slc.v s5) ∧
    needSome s1 fun a6 =>
    ∃ s7 : Slc, World.cell? (World.drew w) (a6.add 1) = some (Slc.v s7) ∧
    inR .i64 (((s7.l : Nat) : Int) - (1 : Int)) ∧
    needSome s5.p fun a8 =>
    0 ≤ (((s7.l : Nat) : Int) - (1 : Int)) ∧ (((s7.l : Nat) : Int) - (1 : Int)) < ((s5.l : Nat) : Int) ∧
    ∃ p9 : Option Addr, World.cell? (World.drew w) (Addr.add a8 ((Int.toNat (((s7.l : Nat) : Int) - (1 : Int))) * 1)) = some (Value.pointer p9) ∧
    needSome p9 fun a10 =>
    ∃ n11 : Int, World.cell? (World.drew w) (a10.add 1) = some (Value.int .i64 n11) ∧
    K (Value.int .i64 n11) (World.drew w))

theorem segs_Store_Last_eq (s1 : Option Addr) (w : World) (K : Value → World → Prop) : segs_Store_Last s1 w K = denF Tryd.prog callB Tryd.f32 .none [(Value.pointer s1)] w K := by kernel_rfl
theorem segs_Store_Last_ok (s1 : Option Addr) {w : World} {R : Ending → World → Prop} (h : segs_Store_Last s1 w fun v w' => R (.returned v) w') : Calls Tryd.prog fn_segs_Store_Last ⟨[(Value.pointer s1)]⟩ w R :=
  calls_of_den callB_ok mixed Tryd.func32 (segs_Store_Last_eq s1 w _ ▸ h)

/-- (*tidewater/segs.Store).Segments -/
def segs_Store_Segments (s1 : Option Addr) (w : World) (K : Value → World → Prop) : Prop :=
  needSome s1 fun a2 =>
  ∃ s3 : Slc, World.cell? w (a2.add 1) = some (Slc.v s3) ∧
  ∃ (I4 : (Slc) → (Int) → World → Prop) (mu5 : (Slc) → (Int) → World → Nat), I4 ((⟨none, 0, 0⟩ : Slc)) ((0 : Int)) w ∧ (
  ∀ out6 : Slc, ∀ i7 : Int, ∀ w8 : World, I4 out6 i7 w8 → ∀ u9 u10 u11 u12 u13 u14 u15 u16 u17 u18 u19 u20 : Value,
    BIf (decide (i7 < ((s3.l : Nat) : Int))) (
      needSome s3.p fun a21 =>
      0 ≤ i7 ∧ i7 < ((s3.l : Nat) : Int) ∧
      ∃ p22 : Option Addr, World.cell? w8 (Addr.add a21 ((Int.toNat i7) * 1)) = some (Value.pointer p22) ∧
      needSome p22 fun a23 =>
      ∃ n24 : Int, World.cell? w8 (a23.add 1) = some (Value.int .i64 n24) ∧
      newS w8 (.cells ⟨[(Value.int .i64 n24)]⟩ 3) fun r25 w26 =>
      appendS 1 3 [(Value.int .i64 (0 : Int))] w26 out6 (.slc (⟨(some (⟨r25, 0, none⟩ : Addr)), 1, 1⟩ : Slc)) fun s27 w28 =>
      inR .i64 (i7 + (1 : Int)) ∧
      (I4 (s27) ((i7 + (1 : Int))) w28 ∧ mu5 (s27) ((i7 + (1 : Int))) w28 < mu5 out6 i7 w8)) (
      K (Slc.v out6) w8))

theorem segs_Store_Segments_eq (s1 : Option Addr) (w : World) (K : Value → World → Prop) : segs_Store_Segments s1 w K = denF Tryd.prog callB Tryd.f24 (.two .none (.two .none (.two (.two .none (.one (.loop [(3, Sh.slc), (11, (Sh.int .i64))] [5, 12, 13, 14, 15, 16, 17, 18, 19, 20, 21, 22] .none))) .none))) [(Value.pointer s1)] w K := by kernel_rfl
theorem segs_Store_Segments_ok (s1 : Option Addr) {w : World} {R : Ending → World → Prop} (h : segs_Store_Segments s1 w fun v w' => R (.returned v) w') : Calls Tryd.prog fn_segs_Store_Segments ⟨[(Value.pointer s1)]⟩ w R :=
  calls_of_den callB_ok mixed Tryd.func24 (segs_Store_Segments_eq s1 w _ ▸ h)

/-- (*tidewater/segs.Store).Records -/
def segs_Store_Records (s1 : Option Addr) (number2 : Int) (w : World) (K : Value → World → Prop) : Prop :=
  Calls Tryd.prog fn_segs_Store_find ⟨[(Value.pointer s1), (Value.int .i64 number2)]⟩ w fun e3 w4 =>
  ∃ n5 : Int, e3 = .returned (Value.int .i64 n5) ∧
  BIf (decide (n5 < (0 : Int))) (
    K (Slc.v (⟨none, 0, 0⟩ : Slc)) w4) (
    needSome s1 fun a6 =>
    ∃ s7 : Slc, World.cell? w4 (a6.add 1) = some (Slc.v s7) ∧
    needSome s7.p fun a8 =>
    0 ≤ n5 ∧ n5 < ((s7.l : Nat) : Int) ∧
    ∃ p9 : Option Addr, World.cell? w4 (Addr.add a8 ((Int.toNat n5) * 1)) = some (Value.pointer p9) ∧
    needSome p9 fun a10 =>
    ∃ s11 : Slc, World.cell? w4 (a10.add 2) = some (Slc.v s11) ∧
    ∃ (I12 : (Slc) → (Int) → World → Prop) (mu13 : (Slc) → (Int) → World → Nat), I12 ((⟨none, 0, 0⟩ : Slc)) ((0 : Int)) w4 ∧ (
    ∀ out14 : Slc, ∀ i15 : Int, ∀ w16 : World, I12 out14 i15 w16 → ∀ u17 u18 u19 u20 u21 u22 u23 u24 u25 u26 : Value,
      BIf (decide (i15 < ((s11.l : Nat) : Int))) (
        needSome s11.p fun a27 =>
        0 ≤ i15 ∧ i15 < ((s11.l : Nat) : Int) ∧
        ∃ s28 : Slc, World.cell? w16 (Addr.add a27 ((Int.toNat i15) * 1)) = some (Slc.v s28) ∧
        Calls Tryd.prog fn_slices_Clone_byte ⟨[(Slc.v s28)]⟩ w16 fun e29 w30 =>
        ∃ s31 : Slc, e29 = .returned (Slc.v s31) ∧
        newS w30 (.cells ⟨[(Slc.v s31)]⟩ 36) fun r32 w33 =>
        appendS 1 36 [(Slc.v (⟨none, 0, 0⟩ : Slc))] w33 out14 (.slc (⟨(some (⟨r32, 0, none⟩ : Addr)), 1, 1⟩ : Slc)) fun s34 w35 =>
        inR .i64 (i15 + (1 : Int)) ∧
        (I12 (s34) ((i15 + (1 : Int))) w35 ∧ mu13 (s34) ((i15 + (1 : Int))) w35 < mu13 out14 i15 w16)) (
        K (Slc.v out14) w16)))

theorem segs_Store_Records_eq (s1 : Option Addr) (number2 : Int) (w : World) (K : Value → World → Prop) : segs_Store_Records s1 number2 w K = denF Tryd.prog callB Tryd.f25 (.two .none (.two .none (.two .none (.two .none (.two (.two .none (.one (.loop [(6, Sh.slc), (25, (Sh.int .i64))] [8, 26, 27, 28, 29, 30, 31, 32, 33, 34] .none))) .none))))) [(Value.pointer s1), (Value.int .i64 number2)] w K := by kernel_rfl
theorem segs_Store_Records_ok (s1 : Option Addr) (number2 : Int) {w : World} {R : Ending → World → Prop} (h : segs_Store_Records s1 number2 w fun v w' => R (.returned v) w') : Calls Tryd.prog fn_segs_Store_Records ⟨[(Value.pointer s1), (Value.int .i64 number2)]⟩ w R :=
  calls_of_den callB_ok mixed Tryd.func25 (segs_Store_Records_eq s1 number2 w _ ▸ h)

end Go.D
