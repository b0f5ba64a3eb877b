/-
  WHAT IS PROVED: verification conditions of functions of this program, each with its soundness. No further conditions.
-/
import Derived.Test.YtbeciidagekppaaDoorBase
set_option linter.unusedSimpArgs false
set_option maxRecDepth 100000
set_option linter.unusedVariables false
namespace Go.D
open Go Go.Proofs
/-- (*tidewater/segs.Store).find$1 -/
def segs_Store_find_1 (g1 : Option Addr) (cap2 : Option Addr) (w : World) (K : Value → World → Prop) : Prop :=
  needSome g1 fun a3 =>
  ∃ n4 : Int, World.cell? (World.drew w) (a3.add 1) = some (Value.int .i64 n4) ∧
  needSome cap2 fun a5 =>
  ∃ n6 : Int, World.cell? (World.drew w) a5 = some (Value.int .i64 n6) ∧
  K (Value.bool (decide (n4 = n6))) (World.drew w)

theorem segs_Store_find_1_eq (g1 : Option Addr) (cap2 : Option Addr) (w : World) (K : Value → World → Prop) : segs_Store_find_1 g1 cap2 w K = denF Tryd.prog callB Tryd.f66 .none [(Value.pointer g1), (Value.pointer cap2)] w K := by kernel_rfl
theorem segs_Store_find_1_ok (g1 : Option Addr) (cap2 : Option Addr) {w : World} {R : Ending → World → Prop} (h : segs_Store_find_1 g1 cap2 w fun v w' => R (.returned v) w') : Calls Tryd.prog fn_segs_Store_find_1 ⟨[(Value.pointer g1), (Value.pointer cap2)]⟩ w R :=
  calls_of_den callB_ok mixed Tryd.func66 (segs_Store_find_1_eq g1 cap2 w _ ▸ h)

/-- slices.IndexFunc[[]*tidewater/segs.segment,*tidewater/segs.segment] -/
def slices_IndexFunc_segment_segs_Store_find_1 (s1 : Slc) (c2 : Option Addr) (w : World) (K : Value → World → Prop) : Prop :=
  ∃ (I3 : (Int) → World → Prop) (mu4 : (Int) → World → Nat), I3 ((0 : Int)) w ∧ (
  ∀ i5 : Int, ∀ w6 : World, I3 i5 w6 → ∀ u7 u8 u9 u10 u11 u12 u13 u14 u15 u16 u17 u18 : Value,
    BIf (decide (i5 < ((s1.l : Nat) : Int))) (
      needSome s1.p fun a19 =>
      0 ≤ i5 ∧ i5 < ((s1.l : Nat) : Int) ∧
      ∃ p20 : Option Addr, World.cell? w6 (Addr.add a19 ((Int.toNat i5) * 1)) = some (Value.pointer p20) ∧
      Calls Tryd.prog fn_segs_Store_find_1 ⟨[(Value.pointer p20), (Value.pointer c2)]⟩ w6 fun e21 w22 =>
      ∃ b23 : Bool, e21 = .returned (Value.bool b23) ∧
      BIf b23 (
        K (Value.int .i64 i5) w22) (
        inR .i64 (i5 + (1 : Int)) ∧
        (I3 ((i5 + (1 : Int))) w22 ∧ mu4 ((i5 + (1 : Int))) w22 < mu4 i5 w6))) (
      K (Value.int .i64 (-1 : Int)) w6))

theorem slices_IndexFunc_segment_segs_Store_find_1_eq (s1 : Slc) (c2 : Option Addr) (w : World) (K : Value → World → Prop) : slices_IndexFunc_segment_segs_Store_find_1 s1 c2 w K = denF Tryd.prog callB Tryd.f65 (.two .none (.two (.two .none (.one (.loop [(8, (Sh.int .i64))] [4, 5, 9, 10, 11, 12, 13, 14, 15, 16, 17, 18] .none))) .none)) [(Slc.v s1), (Value.func (.func 66) ⟨[]⟩ ⟨[(Value.pointer c2)]⟩)] w K := by kernel_rfl
theorem slices_IndexFunc_segment_segs_Store_find_1_ok (s1 : Slc) (c2 : Option Addr) {w : World} {R : Ending → World → Prop} (h : slices_IndexFunc_segment_segs_Store_find_1 s1 c2 w fun v w' => R (.returned v) w') : Calls Tryd.prog fn_slices_IndexFunc_segment ⟨[(Slc.v s1), (Value.func (.func 66) ⟨[]⟩ ⟨[(Value.pointer c2)]⟩)]⟩ w R :=
  calls_of_den callB_ok mixed Tryd.func65 (slices_IndexFunc_segment_segs_Store_find_1_eq s1 c2 w _ ▸ h)

/-- (*tidewater/segs.Store).find -/
def segs_Store_find (s1 : Option Addr) (number2 : Int) (w : World) (K : Value → World → Prop) : Prop :=
  newS w (.cells ⟨[(Value.int .i64 number2)]⟩ 3) fun r3 w4 =>
  needSome s1 fun a5 =>
  ∃ s6 : Slc, World.cell? w4 (a5.add 1) = some (Slc.v s6) ∧
  Calls Tryd.prog fn_slices_IndexFunc_segment ⟨[(Slc.v s6), (Value.func (.func 66) ⟨[]⟩ ⟨[(Value.pointer (some (⟨r3, 0, none⟩ : Addr)))]⟩)]⟩ w4 fun e7 w8 =>
  ∃ n9 : Int, e7 = .returned (Value.int .i64 n9) ∧
  K (Value.int .i64 n9) w8

theorem segs_Store_find_eq (s1 : Option Addr) (number2 : Int) (w : World) (K : Value → World → Prop) : segs_Store_find s1 number2 w K = denF Tryd.prog callB Tryd.f43 .none [(Value.pointer s1), (Value.int .i64 number2)] w K := by kernel_rfl
theorem segs_Store_find_ok (s1 : Option Addr) (number2 : Int) {w : World} {R : Ending → World → Prop} (h : segs_Store_find s1 number2 w fun v w' => R (.returned v) w') : Calls Tryd.prog fn_segs_Store_find ⟨[(Value.pointer s1), (Value.int .i64 number2)]⟩ w R :=
  calls_of_den callB_ok mixed Tryd.func43 (segs_Store_find_eq s1 number2 w _ ▸ h)

/-- slices.Delete[[]*tidewater/segs.segment,*tidewater/segs.segment] -/
def slices_Delete_segment (s1 : Slc) (i2 : Int) (j3 : Int) (w : World) (K : Value → World → Prop) : Prop :=
  0 ≤ i2 ∧ i2 ≤ j3 ∧ j3 ≤ ((s1.l : Nat) : Int) ∧ ((s1.l : Nat) : Int) ≤ ((s1.c : Nat) : Int) ∧
  BIf (decide (i2 = j3)) (
    K (Slc.v s1) w) (
    0 ≤ (0 : Int) ∧ (0 : Int) ≤ i2 ∧ i2 ≤ ((s1.c : Nat) : Int) ∧ ((s1.c : Nat) : Int) ≤ ((s1.c : Nat) : Int) ∧
    0 ≤ j3 ∧ j3 ≤ ((s1.l : Nat) : Int) ∧ ((s1.l : Nat) : Int) ≤ ((s1.c : Nat) : Int) ∧ ((s1.c : Nat) : Int) ≤ ((s1.c : Nat) : Int) ∧
    appendS 1 93 [(Value.pointer none)] (World.drew w) (Slc.sub s1 1 0 (Int.toNat i2) s1.c) (.slc (Slc.sub s1 1 (Int.toNat j3) s1.l s1.c)) fun s7 w8 =>
    0 ≤ ((s7.l : Nat) : Int) ∧ ((s7.l : Nat) : Int) ≤ ((s1.l : Nat) : Int) ∧ ((s1.l : Nat) : Int) ≤ ((s7.c : Nat) : Int) ∧ ((s7.c : Nat) : Int) ≤ ((s7.c : Nat) : Int) ∧
    clearS [(Value.pointer none)] w8 (Slc.sub s7 1 s7.l s1.l s7.c) fun w10 =>
    K (Slc.v s7) w10)

theorem slices_Delete_segment_eq (s1 : Slc) (i2 : Int) (j3 : Int) (w : World) (K : Value → World → Prop) : slices_Delete_segment s1 i2 j3 w K = denF Tryd.prog callB Tryd.f59 .none [(Slc.v s1), (Value.int .i64 i2), (Value.int .i64 j3)] w K := by kernel_rfl
theorem slices_Delete_segment_ok (s1 : Slc) (i2 : Int) (j3 : Int) {w : World} {R : Ending → World → Prop} (h : slices_Delete_segment s1 i2 j3 w fun v w' => R (.returned v) w') : Calls Tryd.prog fn_slices_Delete_segment ⟨[(Slc.v s1), (Value.int .i64 i2), (Value.int .i64 j3)]⟩ w R :=
  calls_of_den callB_ok mixed Tryd.func59 (slices_Delete_segment_eq s1 i2 j3 w _ ▸ h)

/-- (*tidewater/segs.Store).Drop -/
def segs_Store_Drop (s1 : Option Addr) (number2 : Int) (w : World) (K : Value → World → Prop) : Prop :=
  Calls Tryd.prog fn_segs_Store_find ⟨[(Value.pointer s1), (Value.int .i64 number2)]⟩ w fun e3 w4 =>
  ∃ n5 : Int, e3 = .returned (Value.int .i64 n5) ∧
  BIf (decide (n5 < (0 : Int))) (
    ∃ v6 : Value, World.cell? w4 (⟨gl_ErrNone, 0, none⟩ : Addr) = some v6 ∧
    K v6 w4) (
    needSome s1 fun a7 =>
    ∃ s8 : Slc, World.cell? w4 (a7.add 1) = some (Slc.v s8) ∧
    inR .i64 (((s8.l : Nat) : Int) - (1 : Int)) ∧
    BIf (decide (n5 = (((s8.l : Nat) : Int) - (1 : Int)))) (
      ∃ v9 : Value, World.cell? w4 (⟨gl_ErrState, 0, none⟩ : Addr) = some v9 ∧
      K v9 w4) (
      needSome s1 fun a10 =>
      ∃ s11 : Slc, World.cell? (World.drew w4) (a10.add 1) = some (Slc.v s11) ∧
      needSome s11.p fun a12 =>
      0 ≤ n5 ∧ n5 < ((s11.l : Nat) : Int) ∧
      ∃ p13 : Option Addr, World.cell? (World.drew w4) (Addr.add a12 ((Int.toNat n5) * 1)) = some (Value.pointer p13) ∧
      needSome p13 fun a14 =>
      ∃ n15 : Int, World.cell? (World.drew w4) a14 = some (Value.int .i64 n15) ∧
      Calls Tryd.prog fn_segs_head ⟨[(Value.int .i64 number2), (Value.int .u8 (2 : Int))]⟩ (World.drew w4) fun e16 w17 =>
      ∃ s18 : Slc, e16 = .returned (Slc.v s18) ∧
      (∃ n19 : Int, World.cell? w17 a14 = some (Value.int .i64 n19) ∧
      (Value.int .i64 n19) = (Value.int .i64 n15)) ∧
      (∃ p20 : Option Addr, World.cell? w17 (Addr.add a12 ((Int.toNat n5) * 1)) = some (Value.pointer p20) ∧
      (Value.pointer p20) = (Value.pointer p13)) ∧
      (∃ s21 : Slc, World.cell? w17 (a10.add 1) = some (Slc.v s21) ∧
      (Slc.v s21) = (Slc.v s11)) ∧
      Calls Tryd.prog fn_segs_Store_sure ⟨[(Value.pointer s1), (Value.int .i64 n15), (Value.int .i64 (0 : Int)), (Slc.v s18)]⟩ w17 fun e22 w23 =>
      ∃ e24 : Value, e22 = .returned e24 ∧
      isI e24 ∧
      BIf (!isNilI e24) (
        K e24 w23) (
        needSome s1 fun a25 =>
        ∃ s26 : Slc, World.cell? w23 (a25.add 1) = some (Slc.v s26) ∧
        inR .i64 (n5 + (1 : Int)) ∧
        Calls Tryd.prog fn_slices_Delete_segment ⟨[(Slc.v s26), (Value.int .i64 n5), (Value.int .i64 (n5 + (1 : Int)))]⟩ w23 fun e27 w28 =>
        ∃ s29 : Slc, e27 = .returned (Slc.v s29) ∧
        needSome s1 fun a30 =>
        canW w28 (a30.add 1) 1 ∧ ∀ w31 : World, w31 = World.setCell w28 (a30.add 1) (Slc.v s29) →
        K Value.nilIface w31)))

theorem segs_Store_Drop_eq (s1 : Option Addr) (number2 : Int) (w : World) (K : Value → World → Prop) : segs_Store_Drop s1 number2 w K = denF Tryd.prog callB Tryd.f35 .none [(Value.pointer s1), (Value.int .i64 number2)] w K := by kernel_rfl
theorem segs_Store_Drop_ok (s1 : Option Addr) (number2 : Int) {w : World} {R : Ending → World → Prop} (h : segs_Store_Drop s1 number2 w fun v w' => R (.returned v) w') : Calls Tryd.prog fn_segs_Store_Drop ⟨[(Value.pointer s1), (Value.int .i64 number2)]⟩ w R :=
  calls_of_den callB_ok mixed Tryd.func35 (segs_Store_Drop_eq s1 number2 w _ ▸ h)

end Go.D
