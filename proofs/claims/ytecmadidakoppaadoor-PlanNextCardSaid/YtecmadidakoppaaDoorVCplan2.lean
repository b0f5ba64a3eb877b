/-
  WHAT IS PROVED: verification conditions of functions of this program, each with its soundness. No further conditions.
-/
import Derived.Test.YtecmadidakoppaaDoorBase
set_option linter.unusedSimpArgs false
set_option maxRecDepth 100000
set_option linter.unusedVariables false
namespace Go.D
open Go Go.Proofs
/-- tidewater/plan.Copy -/
def plan_Copy (p1 : Int) (p2 : Slc) (w : World) (K : Value → World → Prop) : Prop :=
  newS w (.cells ⟨[(Value.int .i64 p1), (Slc.v p2)]⟩ 24) fun r3 w4 =>
  newS w4 (.cells ⟨[(Value.int .i64 (0 : Int)), (Slc.v (⟨none, 0, 0⟩ : Slc))]⟩ 24) fun r5 w6 =>
  ∃ n7 : Int, World.cell? w6 (⟨r3, 0, none⟩ : Addr) = some (Value.int .i64 n7) ∧
  newS w6 (.cells ⟨[(Value.int .i64 (0 : Int)), (Slc.v (⟨none, 0, 0⟩ : Slc))]⟩ 24) fun r8 w9 =>
  canW w9 (⟨r8, 0, none⟩ : Addr) 2 ∧ ∀ w10 : World, w10 = setCells w9 (⟨r8, 0, none⟩ : Addr) 0 [(Value.int .i64 n7), (Slc.v (⟨none, 0, 0⟩ : Slc))] →
  ∃ s11 : Slc, World.cell? w10 (⟨r3, 1, none⟩ : Addr) = some (Slc.v s11) ∧
  ∃ (I12 : (Int) → World → Prop) (mu13 : (Int) → World → Nat), I12 ((0 : Int)) w10 ∧ (
  ∀ i14 : Int, ∀ w15 : World, I12 i14 w15 → ∀ u16 u17 u18 u19 u20 u21 u22 u23 u24 u25 u26 u27 : Value,
    BIf (decide (i14 < ((s11.l : Nat) : Int))) (
      needSome s11.p fun a28 =>
      0 ≤ i14 ∧ i14 < ((s11.l : Nat) : Int) ∧
      ∃ s29 : Slc, World.cell? w15 (Addr.add a28 ((Int.toNat i14) * 1)) = some (Slc.v s29) ∧
      ∃ s30 : Slc, World.cell? (World.drew w15) (⟨r8, 1, none⟩ : Addr) = some (Slc.v s30) ∧
      Calls Tryd.prog fn_slices_Clone_int ⟨[(Slc.v s29)]⟩ (World.drew w15) fun e31 w32 =>
      ∃ s33 : Slc, e31 = .returned (Slc.v s33) ∧
      (∃ s34 : Slc, World.cell? w32 (⟨r8, 1, none⟩ : Addr) = some (Slc.v s34) ∧
      (Slc.v s34) = (Slc.v s30)) ∧
      newS w32 (.cells ⟨[(Slc.v s33)]⟩ 25) fun r35 w36 =>
      (∃ s37 : Slc, World.cell? w36 (⟨r8, 1, none⟩ : Addr) = some (Slc.v s37) ∧
      (Slc.v s37) = (Slc.v s30)) ∧
      appendS 1 25 [(Slc.v (⟨none, 0, 0⟩ : Slc))] w36 s30 (.slc (⟨(some (⟨r35, 0, none⟩ : Addr)), 1, 1⟩ : Slc)) fun s38 w39 =>
      canW w39 (⟨r8, 1, none⟩ : Addr) 1 ∧ ∀ w40 : World, w40 = World.setCell w39 (⟨r8, 1, none⟩ : Addr) (Slc.v s38) →
      inR .i64 (i14 + (1 : Int)) ∧
      (I12 ((i14 + (1 : Int))) w40 ∧ mu13 ((i14 + (1 : Int))) w40 < mu13 i14 w15)) (
      ∃ n41 : Int, ∃ s42 : Slc, rowAt w15 (⟨r8, 0, none⟩ : Addr) 0 [(Value.int .i64 n41), (Slc.v s42)] ∧
      canW w15 (⟨r5, 0, none⟩ : Addr) 2 ∧ ∀ w43 : World, w43 = setCells w15 (⟨r5, 0, none⟩ : Addr) 0 [(Value.int .i64 n41), (Slc.v s42)] →
      ∃ n44 : Int, ∃ s45 : Slc, rowAt w43 (⟨r5, 0, none⟩ : Addr) 0 [(Value.int .i64 n44), (Slc.v s45)] ∧
      K (Value.agg ⟨[(Value.int .i64 n44), (Slc.v s45)]⟩) w43))

theorem plan_Copy_eq (p1 : Int) (p2 : Slc) (w : World) (K : Value → World → Prop) : plan_Copy p1 p2 w K = denF Tryd.prog callB Tryd.f19 (.two .none (.two .none (.two (.two .none (.one (.loop [(12, (Sh.int .i64))] [5, 13, 14, 15, 16, 17, 18, 19, 20, 21, 22, 23] .none))) .none))) [(Value.agg ⟨[(Value.int .i64 p1), (Slc.v p2)]⟩)] w K := by kernel_rfl
theorem plan_Copy_ok (p1 : Int) (p2 : Slc) {w : World} {R : Ending → World → Prop} (h : plan_Copy p1 p2 w fun v w' => R (.returned v) w') : Calls Tryd.prog fn_plan_Copy ⟨[(Value.agg ⟨[(Value.int .i64 p1), (Slc.v p2)]⟩)]⟩ w R :=
  calls_of_den callB_ok mixed Tryd.func19 (plan_Copy_eq p1 p2 w _ ▸ h)

/-- tidewater/plan.Replace$1 -/
def plan_Replace_1 (u1 : Int) (cap2 : Option Addr) (w : World) (K : Value → World → Prop) : Prop :=
  needSome cap2 fun a3 =>
  ∃ s4 : Slc, World.cell? w a3 = some (Slc.v s4) ∧
  Calls Tryd.prog fn_slices_Contains_int ⟨[(Slc.v s4), (Value.int .i64 u1)]⟩ w fun e5 w6 =>
  ∃ b7 : Bool, e5 = .returned (Value.bool b7) ∧
  K (Value.bool b7) w6

theorem plan_Replace_1_eq (u1 : Int) (cap2 : Option Addr) (w : World) (K : Value → World → Prop) : plan_Replace_1 u1 cap2 w K = denF Tryd.prog callB Tryd.f32 .none [(Value.int .i64 u1), (Value.pointer cap2)] w K := by kernel_rfl
theorem plan_Replace_1_ok (u1 : Int) (cap2 : Option Addr) {w : World} {R : Ending → World → Prop} (h : plan_Replace_1 u1 cap2 w fun v w' => R (.returned v) w') : Calls Tryd.prog fn_plan_Replace_1 ⟨[(Value.int .i64 u1), (Value.pointer cap2)]⟩ w R :=
  calls_of_den callB_ok mixed Tryd.func32 (plan_Replace_1_eq u1 cap2 w _ ▸ h)

/-- slices.Index[[]int,int] -/
def slices_Index_int (s1 : Slc) (v2 : Int) (w : World) (K : Value → World → Prop) : Prop :=
  ∃ (I3 : (Int) → World → Prop) (mu4 : (Int) → World → Nat), I3 ((0 : Int)) w ∧ (
  ∀ i5 : Int, ∀ w6 : World, I3 i5 w6 → ∀ u7 u8 u9 u10 u11 u12 u13 u14 u15 u16 u17 u18 : Value,
    BIf (decide (i5 < ((s1.l : Nat) : Int))) (
      needSome s1.p fun a19 =>
      0 ≤ i5 ∧ i5 < ((s1.l : Nat) : Int) ∧
      ∃ n20 : Int, World.cell? w6 (Addr.add a19 ((Int.toNat i5) * 1)) = some (Value.int .i64 n20) ∧
      BIf (decide (v2 = n20)) (
        K (Value.int .i64 i5) w6) (
        inR .i64 (i5 + (1 : Int)) ∧
        (I3 ((i5 + (1 : Int))) w6 ∧ mu4 ((i5 + (1 : Int))) w6 < mu4 i5 w6))) (
      K (Value.int .i64 (-1 : Int)) w6))

theorem slices_Index_int_eq (s1 : Slc) (v2 : Int) (w : World) (K : Value → World → Prop) : slices_Index_int s1 v2 w K = denF Tryd.prog callB Tryd.f43 (.two .none (.two (.two .none (.one (.loop [(8, (Sh.int .i64))] [4, 5, 9, 10, 11, 12, 13, 14, 15, 16, 17, 18] .none))) .none)) [(Slc.v s1), (Value.int .i64 v2)] w K := by kernel_rfl
theorem slices_Index_int_ok (s1 : Slc) (v2 : Int) {w : World} {R : Ending → World → Prop} (h : slices_Index_int s1 v2 w fun v w' => R (.returned v) w') : Calls Tryd.prog fn_slices_Index_int ⟨[(Slc.v s1), (Value.int .i64 v2)]⟩ w R :=
  calls_of_den callB_ok mixed Tryd.func43 (slices_Index_int_eq s1 v2 w _ ▸ h)

/-- slices.Contains[[]int,int] -/
def slices_Contains_int (s1 : Slc) (v2 : Int) (w : World) (K : Value → World → Prop) : Prop :=
  Calls Tryd.prog fn_slices_Index_int ⟨[(Slc.v s1), (Value.int .i64 v2)]⟩ w fun e3 w4 =>
  ∃ n5 : Int, e3 = .returned (Value.int .i64 n5) ∧
  K (Value.bool (decide ((0 : Int) ≤ n5))) w4

theorem slices_Contains_int_eq (s1 : Slc) (v2 : Int) (w : World) (K : Value → World → Prop) : slices_Contains_int s1 v2 w K = denF Tryd.prog callB Tryd.f33 .none [(Slc.v s1), (Value.int .i64 v2)] w K := by kernel_rfl
theorem slices_Contains_int_ok (s1 : Slc) (v2 : Int) {w : World} {R : Ending → World → Prop} (h : slices_Contains_int s1 v2 w fun v w' => R (.returned v) w') : Calls Tryd.prog fn_slices_Contains_int ⟨[(Slc.v s1), (Value.int .i64 v2)]⟩ w R :=
  calls_of_den callB_ok mixed Tryd.func33 (slices_Contains_int_eq s1 v2 w _ ▸ h)

/-- slices.IndexFunc[[]int,int] -/
def slices_IndexFunc_int_plan_Replace_1 (s1 : Slc) (c2 : Option Addr) (w : World) (K : Value → World → Prop) : Prop :=
  ∃ (I3 : (Int) → World → Prop) (mu4 : (Int) → World → Nat), I3 ((0 : Int)) w ∧ (
  ∀ i5 : Int, ∀ w6 : World, I3 i5 w6 → ∀ u7 u8 u9 u10 u11 u12 u13 u14 u15 u16 u17 u18 : Value,
    BIf (decide (i5 < ((s1.l : Nat) : Int))) (
      needSome s1.p fun a19 =>
      0 ≤ i5 ∧ i5 < ((s1.l : Nat) : Int) ∧
      ∃ n20 : Int, World.cell? w6 (Addr.add a19 ((Int.toNat i5) * 1)) = some (Value.int .i64 n20) ∧
      Calls Tryd.prog fn_plan_Replace_1 ⟨[(Value.int .i64 n20), (Value.pointer c2)]⟩ w6 fun e21 w22 =>
      ∃ b23 : Bool, e21 = .returned (Value.bool b23) ∧
      BIf b23 (
        K (Value.int .i64 i5) w22) (
        inR .i64 (i5 + (1 : Int)) ∧
        (I3 ((i5 + (1 : Int))) w22 ∧ mu4 ((i5 + (1 : Int))) w22 < mu4 i5 w6))) (
      K (Value.int .i64 (-1 : Int)) w6))

theorem slices_IndexFunc_int_plan_Replace_1_eq (s1 : Slc) (c2 : Option Addr) (w : World) (K : Value → World → Prop) : slices_IndexFunc_int_plan_Replace_1 s1 c2 w K = denF Tryd.prog callB Tryd.f42 (.two .none (.two (.two .none (.one (.loop [(8, (Sh.int .i64))] [4, 5, 9, 10, 11, 12, 13, 14, 15, 16, 17, 18] .none))) .none)) [(Slc.v s1), (Value.func (.func 32) ⟨[]⟩ ⟨[(Value.pointer c2)]⟩)] w K := by kernel_rfl
theorem slices_IndexFunc_int_plan_Replace_1_ok (s1 : Slc) (c2 : Option Addr) {w : World} {R : Ending → World → Prop} (h : slices_IndexFunc_int_plan_Replace_1 s1 c2 w fun v w' => R (.returned v) w') : Calls Tryd.prog fn_slices_IndexFunc_int ⟨[(Slc.v s1), (Value.func (.func 32) ⟨[]⟩ ⟨[(Value.pointer c2)]⟩)]⟩ w R :=
  calls_of_den callB_ok mixed Tryd.func42 (slices_IndexFunc_int_plan_Replace_1_eq s1 c2 w _ ▸ h)

/-- slices.DeleteFunc[[]int,int] -/
def slices_DeleteFunc_int_plan_Replace_1 (s1 : Slc) (c2 : Option Addr) (w : World) (K : Value → World → Prop) : Prop :=
  Calls Tryd.prog fn_slices_IndexFunc_int ⟨[(Slc.v s1), (Value.func (.func 32) ⟨[]⟩ ⟨[(Value.pointer c2)]⟩)]⟩ w fun e3 w4 =>
  ∃ n5 : Int, e3 = .returned (Value.int .i64 n5) ∧
  BIf (decide (n5 = (-1 : Int))) (
    K (Slc.v s1) w4) (
    inR .i64 (n5 + (1 : Int)) ∧
    ∃ (I6 : (Int) → (Int) → World → Prop) (mu7 : (Int) → (Int) → World → Nat), I6 (n5) ((n5 + (1 : Int))) w4 ∧ (
    ∀ i8 : Int, ∀ j9 : Int, ∀ w10 : World, I6 i8 j9 w10 → ∀ u11 u12 u13 u14 u15 u16 u17 u18 u19 u20 u21 u22 u23 u24 u25 u26 u27 u28 u29 u30 u31 : Value,
      BIf (decide (j9 < ((s1.l : Nat) : Int))) (
        needSome s1.p fun a32 =>
        0 ≤ j9 ∧ j9 < ((s1.l : Nat) : Int) ∧
        ∃ n33 : Int, World.cell? w10 (Addr.add a32 ((Int.toNat j9) * 1)) = some (Value.int .i64 n33) ∧
        Calls Tryd.prog fn_plan_Replace_1 ⟨[(Value.int .i64 n33), (Value.pointer c2)]⟩ w10 fun e34 w35 =>
        ∃ b36 : Bool, e34 = .returned (Value.bool b36) ∧
        BIf (!b36) (
          needSome s1.p fun a37 =>
          0 ≤ i8 ∧ i8 < ((s1.l : Nat) : Int) ∧
          canW w35 (Addr.add a37 ((Int.toNat i8) * 1)) 1 ∧ ∀ w38 : World, w38 = World.setCell w35 (Addr.add a37 ((Int.toNat i8) * 1)) (Value.int .i64 n33) →
          inR .i64 (i8 + (1 : Int)) ∧
          inR .i64 (j9 + (1 : Int)) ∧
          (I6 ((i8 + (1 : Int))) ((j9 + (1 : Int))) w38 ∧ mu7 ((i8 + (1 : Int))) ((j9 + (1 : Int))) w38 < mu7 i8 j9 w10)) (
          inR .i64 (j9 + (1 : Int)) ∧
          (I6 (i8) ((j9 + (1 : Int))) w35 ∧ mu7 (i8) ((j9 + (1 : Int))) w35 < mu7 i8 j9 w10))) (
        0 ≤ i8 ∧ i8 ≤ ((s1.l : Nat) : Int) ∧ ((s1.l : Nat) : Int) ≤ ((s1.c : Nat) : Int) ∧ ((s1.c : Nat) : Int) ≤ ((s1.c : Nat) : Int) ∧
        clearS [(Value.int .i64 (0 : Int))] w10 (Slc.sub s1 1 (Int.toNat i8) s1.l s1.c) fun w40 =>
        0 ≤ (0 : Int) ∧ (0 : Int) ≤ i8 ∧ i8 ≤ ((s1.c : Nat) : Int) ∧ ((s1.c : Nat) : Int) ≤ ((s1.c : Nat) : Int) ∧
        K (Slc.v (Slc.sub s1 1 0 (Int.toNat i8) s1.c)) w40)))

theorem slices_DeleteFunc_int_plan_Replace_1_eq (s1 : Slc) (c2 : Option Addr) (w : World) (K : Value → World → Prop) : slices_DeleteFunc_int_plan_Replace_1 s1 c2 w K = denF Tryd.prog callB Tryd.f31 (.two .none (.two .none (.two .none (.two (.two .none (.one (.loop [(5, (Sh.int .i64)), (6, (Sh.int .i64))] [7, 16, 17, 18, 19, 20, 21, 22, 23, 24, 25, 26, 27, 28, 29, 30, 31, 32, 33, 34, 35] .none))) .none)))) [(Slc.v s1), (Value.func (.func 32) ⟨[]⟩ ⟨[(Value.pointer c2)]⟩)] w K := by kernel_rfl
theorem slices_DeleteFunc_int_plan_Replace_1_ok (s1 : Slc) (c2 : Option Addr) {w : World} {R : Ending → World → Prop} (h : slices_DeleteFunc_int_plan_Replace_1 s1 c2 w fun v w' => R (.returned v) w') : Calls Tryd.prog fn_slices_DeleteFunc_int ⟨[(Slc.v s1), (Value.func (.func 32) ⟨[]⟩ ⟨[(Value.pointer c2)]⟩)]⟩ w R :=
  calls_of_den callB_ok mixed Tryd.func31 (slices_DeleteFunc_int_plan_Replace_1_eq s1 c2 w _ ▸ h)

/-- tidewater/plan.home -/
def plan_home (was1 : Slc) (now2 : Slc) (w : World) (K : Value → World → Prop) : Prop :=
  ∃ (I3 : (Int) → World → Prop) (mu4 : (Int) → World → Nat), I3 ((0 : Int)) w ∧ (
  ∀ i5 : Int, ∀ w6 : World, I3 i5 w6 → ∀ u7 u8 u9 u10 u11 u12 u13 u14 u15 u16 u17 u18 u19 u20 u21 u22 u23 : Value,
    BIf (decide (i5 < ((now2.l : Nat) : Int))) (
      needSome now2.p fun a24 =>
      0 ≤ i5 ∧ i5 < ((now2.l : Nat) : Int) ∧
      ∃ s25 : Slc, World.cell? (World.drew w6) (Addr.add a24 ((Int.toNat i5) * 1)) = some (Slc.v s25) ∧
      needSome was1.p fun a26 =>
      0 ≤ i5 ∧ i5 < ((was1.l : Nat) : Int) ∧
      ∃ s27 : Slc, World.cell? (World.drew w6) (Addr.add a26 ((Int.toNat i5) * 1)) = some (Slc.v s27) ∧
      BIf (decide (((s25.l : Nat) : Int) < ((s27.l : Nat) : Int))) (
        K (Value.int .i64 i5) (World.drew w6)) (
        inR .i64 (i5 + (1 : Int)) ∧
        (I3 ((i5 + (1 : Int))) (World.drew w6) ∧ mu4 ((i5 + (1 : Int))) (World.drew w6) < mu4 i5 w6))) (
      ∃ (I28 : (Int) → (Int) → World → Prop) (mu29 : (Int) → (Int) → World → Nat), I28 ((0 : Int)) ((0 : Int)) w6 ∧ (
      ∀ best30 : Int, ∀ i31 : Int, ∀ w32 : World, I28 best30 i31 w32 → ∀ u33 u34 u35 u36 u37 u38 u39 u40 u41 u42 u43 u44 u45 u46 u47 u48 : Value,
        BIf (decide (i31 < ((now2.l : Nat) : Int))) (
          needSome now2.p fun a49 =>
          0 ≤ i31 ∧ i31 < ((now2.l : Nat) : Int) ∧
          ∃ s50 : Slc, World.cell? (World.drew w32) (Addr.add a49 ((Int.toNat i31) * 1)) = some (Slc.v s50) ∧
          needSome now2.p fun a51 =>
          0 ≤ best30 ∧ best30 < ((now2.l : Nat) : Int) ∧
          ∃ s52 : Slc, World.cell? (World.drew w32) (Addr.add a51 ((Int.toNat best30) * 1)) = some (Slc.v s52) ∧
          BIf (decide (((s50.l : Nat) : Int) < ((s52.l : Nat) : Int))) (
            inR .i64 (i31 + (1 : Int)) ∧
            (I28 (i31) ((i31 + (1 : Int))) (World.drew w32) ∧ mu29 (i31) ((i31 + (1 : Int))) (World.drew w32) < mu29 best30 i31 w32)) (
            inR .i64 (i31 + (1 : Int)) ∧
            (I28 (best30) ((i31 + (1 : Int))) (World.drew w32) ∧ mu29 (best30) ((i31 + (1 : Int))) (World.drew w32) < mu29 best30 i31 w32))) (
          K (Value.int .i64 best30) w32))))

theorem plan_home_eq (was1 : Slc) (now2 : Slc) (w : World) (K : Value → World → Prop) : plan_home was1 now2 w K = denF Tryd.prog callB Tryd.f34 (.two .none (.two (.two .none (.one (.loop [(10, (Sh.int .i64))] [4, 5, 11, 12, 13, 14, 15, 16, 17, 18, 19, 20, 21, 22, 23, 24, 25] .none))) (.two .none (.two (.two .none (.one (.loop [(6, (Sh.int .i64)), (28, (Sh.int .i64))] [7, 29, 30, 31, 32, 33, 34, 35, 36, 37, 38, 39, 40, 41, 42, 43] .none))) .none)))) [(Slc.v was1), (Slc.v now2)] w K := by kernel_rfl
theorem plan_home_ok (was1 : Slc) (now2 : Slc) {w : World} {R : Ending → World → Prop} (h : plan_home was1 now2 w fun v w' => R (.returned v) w') : Calls Tryd.prog fn_plan_home ⟨[(Slc.v was1), (Slc.v now2)]⟩ w R :=
  calls_of_den callB_ok mixed Tryd.func34 (plan_home_eq was1 now2 w _ ▸ h)

/-- tidewater/plan.Replace -/
def plan_Replace (p1 : Int) (p2 : Slc) (gone3 : Slc) (fresh4 : Int) (w : World) (K : Value → World → Prop) : Prop :=
  newS w (.cells ⟨[(Value.int .i64 p1), (Slc.v p2)]⟩ 24) fun r5 w6 =>
  newS w6 (.cells ⟨[(Slc.v gone3)]⟩ 25) fun r7 w8 =>
  newS w8 (.cells ⟨[(Value.int .i64 (0 : Int)), (Slc.v (⟨none, 0, 0⟩ : Slc))]⟩ 24) fun r9 w10 =>
  ∃ n11 : Int, ∃ s12 : Slc, rowAt w10 (⟨r5, 0, none⟩ : Addr) 0 [(Value.int .i64 n11), (Slc.v s12)] ∧
  Calls Tryd.prog fn_plan_Right ⟨[(Value.agg ⟨[(Value.int .i64 n11), (Slc.v s12)]⟩)]⟩ w10 fun e13 w14 =>
  ∃ b15 : Bool, e13 = .returned (Value.bool b15) ∧
  BIf (!b15) (
    ∃ v16 : Value, World.cell? (World.drew w14) (⟨gl_ErrForm, 0, none⟩ : Addr) = some v16 ∧
    canW (World.drew w14) (⟨r9, 0, none⟩ : Addr) 2 ∧ ∀ w17 : World, w17 = setCells (World.drew w14) (⟨r9, 0, none⟩ : Addr) 0 [(Value.int .i64 (0 : Int)), (Slc.v (⟨none, 0, 0⟩ : Slc))] →
    (∃ v18 : Value, World.cell? w17 (⟨gl_ErrForm, 0, none⟩ : Addr) = some v18 ∧
    v18 = v16) ∧
    ∃ n19 : Int, ∃ s20 : Slc, rowAt w17 (⟨r9, 0, none⟩ : Addr) 0 [(Value.int .i64 n19), (Slc.v s20)] ∧
    K (Value.tuple ⟨[(Value.agg ⟨[(Value.int .i64 n19), (Slc.v s20)]⟩), v16]⟩) w17) (
    ∃ n21 : Int, World.cell? w14 (⟨r5, 0, none⟩ : Addr) = some (Value.int .i64 n21) ∧
    BIf (decide (n21 = (1073741824 : Int))) (
      ∃ v22 : Value, World.cell? (World.drew w14) (⟨gl_ErrEpoch, 0, none⟩ : Addr) = some v22 ∧
      canW (World.drew w14) (⟨r9, 0, none⟩ : Addr) 2 ∧ ∀ w23 : World, w23 = setCells (World.drew w14) (⟨r9, 0, none⟩ : Addr) 0 [(Value.int .i64 (0 : Int)), (Slc.v (⟨none, 0, 0⟩ : Slc))] →
      (∃ v24 : Value, World.cell? w23 (⟨gl_ErrEpoch, 0, none⟩ : Addr) = some v24 ∧
      v24 = v22) ∧
      ∃ n25 : Int, ∃ s26 : Slc, rowAt w23 (⟨r9, 0, none⟩ : Addr) 0 [(Value.int .i64 n25), (Slc.v s26)] ∧
      K (Value.tuple ⟨[(Value.agg ⟨[(Value.int .i64 n25), (Slc.v s26)]⟩), v22]⟩) w23) (
      ∃ n27 : Int, ∃ s28 : Slc, rowAt w14 (⟨r5, 0, none⟩ : Addr) 0 [(Value.int .i64 n27), (Slc.v s28)] ∧
      Calls Tryd.prog fn_plan_Copy ⟨[(Value.agg ⟨[(Value.int .i64 n27), (Slc.v s28)]⟩)]⟩ w14 fun e29 w30 =>
      ∃ x31 : Int, ∃ x32 : Slc, e29 = .returned (Value.agg ⟨[(Value.int .i64 x31), (Slc.v x32)]⟩) ∧
      newS w30 (.cells ⟨[(Value.int .i64 (0 : Int)), (Slc.v (⟨none, 0, 0⟩ : Slc))]⟩ 24) fun r33 w34 =>
      canW w34 (⟨r33, 0, none⟩ : Addr) 2 ∧ ∀ w35 : World, w35 = setCells w34 (⟨r33, 0, none⟩ : Addr) 0 [(Value.int .i64 x31), (Slc.v x32)] →
      ∃ n36 : Int, World.cell? w35 (⟨r33, 0, none⟩ : Addr) = some (Value.int .i64 n36) ∧
      inR .i64 (n36 + (1 : Int)) ∧
      canW w35 (⟨r33, 0, none⟩ : Addr) 1 ∧ ∀ w37 : World, w37 = World.setCell w35 (⟨r33, 0, none⟩ : Addr) (Value.int .i64 (n36 + (1 : Int))) →
      ∃ s38 : Slc, World.cell? w37 (⟨r33, 1, none⟩ : Addr) = some (Slc.v s38) ∧
      ∃ (I39 : (Int) → World → Prop) (mu40 : (Int) → World → Nat), I39 ((0 : Int)) w37 ∧ (
      ∀ i41 : Int, ∀ w42 : World, I39 i41 w42 → ∀ u43 u44 u45 u46 u47 u48 u49 u50 u51 u52 u53 u54 u55 u56 u57 u58 u59 u60 u61 u62 u63 u64 u65 u66 : Value,
        BIf (decide (i41 < ((s38.l : Nat) : Int))) (
          needSome s38.p fun a67 =>
          0 ≤ i41 ∧ i41 < ((s38.l : Nat) : Int) ∧
          ∃ s68 : Slc, World.cell? w42 (Addr.add a67 ((Int.toNat i41) * 1)) = some (Slc.v s68) ∧
          ∃ s69 : Slc, World.cell? (World.drew w42) (⟨r33, 1, none⟩ : Addr) = some (Slc.v s69) ∧
          Calls Tryd.prog fn_slices_DeleteFunc_int ⟨[(Slc.v s68), (Value.func (.func 32) ⟨[]⟩ ⟨[(Value.pointer (some (⟨r7, 0, none⟩ : Addr)))]⟩)]⟩ (World.drew w42) fun e70 w71 =>
          ∃ s72 : Slc, e70 = .returned (Slc.v s72) ∧
          (∃ s73 : Slc, World.cell? w71 (⟨r33, 1, none⟩ : Addr) = some (Slc.v s73) ∧
          (Slc.v s73) = (Slc.v s69)) ∧
          needSome s69.p fun a74 =>
          0 ≤ i41 ∧ i41 < ((s69.l : Nat) : Int) ∧
          canW w71 (Addr.add a74 ((Int.toNat i41) * 1)) 1 ∧ ∀ w75 : World, w75 = World.setCell w71 (Addr.add a74 ((Int.toNat i41) * 1)) (Slc.v s72) →
          ∃ s76 : Slc, World.cell? w75 (⟨r33, 1, none⟩ : Addr) = some (Slc.v s76) ∧
          needSome s76.p fun a77 =>
          0 ≤ i41 ∧ i41 < ((s76.l : Nat) : Int) ∧
          ∃ s78 : Slc, World.cell? w75 (Addr.add a77 ((Int.toNat i41) * 1)) = some (Slc.v s78) ∧
          BIf (decide (((s78.l : Nat) : Int) = (0 : Int))) (
            ∃ v79 : Value, World.cell? (World.drew w75) (⟨gl_ErrNone, 0, none⟩ : Addr) = some v79 ∧
            canW (World.drew w75) (⟨r9, 0, none⟩ : Addr) 2 ∧ ∀ w80 : World, w80 = setCells (World.drew w75) (⟨r9, 0, none⟩ : Addr) 0 [(Value.int .i64 (0 : Int)), (Slc.v (⟨none, 0, 0⟩ : Slc))] →
            (∃ v81 : Value, World.cell? w80 (⟨gl_ErrNone, 0, none⟩ : Addr) = some v81 ∧
            v81 = v79) ∧
            ∃ n82 : Int, ∃ s83 : Slc, rowAt w80 (⟨r9, 0, none⟩ : Addr) 0 [(Value.int .i64 n82), (Slc.v s83)] ∧
            K (Value.tuple ⟨[(Value.agg ⟨[(Value.int .i64 n82), (Slc.v s83)]⟩), v79]⟩) w80) (
            inR .i64 (i41 + (1 : Int)) ∧
            (I39 ((i41 + (1 : Int))) w75 ∧ mu40 ((i41 + (1 : Int))) w75 < mu40 i41 w42))) (
          BIf (decide (fresh4 < (0 : Int))) (
            ∃ n84 : Int, ∃ s85 : Slc, rowAt w42 (⟨r33, 0, none⟩ : Addr) 0 [(Value.int .i64 n84), (Slc.v s85)] ∧
            canW w42 (⟨r9, 0, none⟩ : Addr) 2 ∧ ∀ w86 : World, w86 = setCells w42 (⟨r9, 0, none⟩ : Addr) 0 [(Value.int .i64 n84), (Slc.v s85)] →
            ∃ n87 : Int, ∃ s88 : Slc, rowAt w86 (⟨r9, 0, none⟩ : Addr) 0 [(Value.int .i64 n87), (Slc.v s88)] ∧
            K (Value.tuple ⟨[(Value.agg ⟨[(Value.int .i64 n87), (Slc.v s88)]⟩), Value.nilIface]⟩) w86) (
            BIf (decide ((12 : Int) ≤ fresh4)) (
              ∃ v89 : Value, World.cell? (World.drew w42) (⟨gl_ErrRange, 0, none⟩ : Addr) = some v89 ∧
              canW (World.drew w42) (⟨r9, 0, none⟩ : Addr) 2 ∧ ∀ w90 : World, w90 = setCells (World.drew w42) (⟨r9, 0, none⟩ : Addr) 0 [(Value.int .i64 (0 : Int)), (Slc.v (⟨none, 0, 0⟩ : Slc))] →
              (∃ v91 : Value, World.cell? w90 (⟨gl_ErrRange, 0, none⟩ : Addr) = some v91 ∧
              v91 = v89) ∧
              ∃ n92 : Int, ∃ s93 : Slc, rowAt w90 (⟨r9, 0, none⟩ : Addr) 0 [(Value.int .i64 n92), (Slc.v s93)] ∧
              K (Value.tuple ⟨[(Value.agg ⟨[(Value.int .i64 n92), (Slc.v s93)]⟩), v89]⟩) w90) (
              ∃ n94 : Int, ∃ s95 : Slc, rowAt w42 (⟨r5, 0, none⟩ : Addr) 0 [(Value.int .i64 n94), (Slc.v s95)] ∧
              Calls Tryd.prog fn_plan_all ⟨[(Value.agg ⟨[(Value.int .i64 n94), (Slc.v s95)]⟩)]⟩ w42 fun e96 w97 =>
              ∃ s98 : Slc, e96 = .returned (Slc.v s98) ∧
              Calls Tryd.prog fn_slices_Contains_int ⟨[(Slc.v s98), (Value.int .i64 fresh4)]⟩ w97 fun e99 w100 =>
              ∃ b101 : Bool, e99 = .returned (Value.bool b101) ∧
              BIf b101 (
                ∃ v102 : Value, World.cell? (World.drew w100) (⟨gl_ErrState, 0, none⟩ : Addr) = some v102 ∧
                canW (World.drew w100) (⟨r9, 0, none⟩ : Addr) 2 ∧ ∀ w103 : World, w103 = setCells (World.drew w100) (⟨r9, 0, none⟩ : Addr) 0 [(Value.int .i64 (0 : Int)), (Slc.v (⟨none, 0, 0⟩ : Slc))] →
                (∃ v104 : Value, World.cell? w103 (⟨gl_ErrState, 0, none⟩ : Addr) = some v104 ∧
                v104 = v102) ∧
                ∃ n105 : Int, ∃ s106 : Slc, rowAt w103 (⟨r9, 0, none⟩ : Addr) 0 [(Value.int .i64 n105), (Slc.v s106)] ∧
                K (Value.tuple ⟨[(Value.agg ⟨[(Value.int .i64 n105), (Slc.v s106)]⟩), v102]⟩) w103) (
                ∃ s107 : Slc, World.cell? w100 (⟨r5, 1, none⟩ : Addr) = some (Slc.v s107) ∧
                ∃ s108 : Slc, World.cell? w100 (⟨r33, 1, none⟩ : Addr) = some (Slc.v s108) ∧
                Calls Tryd.prog fn_plan_home ⟨[(Slc.v s107), (Slc.v s108)]⟩ w100 fun e109 w110 =>
                ∃ n111 : Int, e109 = .returned (Value.int .i64 n111) ∧
                ∃ s112 : Slc, World.cell? w110 (⟨r33, 1, none⟩ : Addr) = some (Slc.v s112) ∧
                needSome s112.p fun a113 =>
                0 ≤ n111 ∧ n111 < ((s112.l : Nat) : Int) ∧
                ∃ s114 : Slc, World.cell? w110 (Addr.add a113 ((Int.toNat n111) * 1)) = some (Slc.v s114) ∧
                BIf (decide ((3 : Int) ≤ ((s114.l : Nat) : Int))) (
                  ∃ v115 : Value, World.cell? (World.drew w110) (⟨gl_ErrFull, 0, none⟩ : Addr) = some v115 ∧
                  canW (World.drew w110) (⟨r9, 0, none⟩ : Addr) 2 ∧ ∀ w116 : World, w116 = setCells (World.drew w110) (⟨r9, 0, none⟩ : Addr) 0 [(Value.int .i64 (0 : Int)), (Slc.v (⟨none, 0, 0⟩ : Slc))] →
                  (∃ v117 : Value, World.cell? w116 (⟨gl_ErrFull, 0, none⟩ : Addr) = some v117 ∧
                  v117 = v115) ∧
                  ∃ n118 : Int, ∃ s119 : Slc, rowAt w116 (⟨r9, 0, none⟩ : Addr) 0 [(Value.int .i64 n118), (Slc.v s119)] ∧
                  K (Value.tuple ⟨[(Value.agg ⟨[(Value.int .i64 n118), (Slc.v s119)]⟩), v115]⟩) w116) (
                  ∃ s120 : Slc, World.cell? (World.drew w110) (⟨r33, 1, none⟩ : Addr) = some (Slc.v s120) ∧
                  ∃ s121 : Slc, World.cell? (World.drew w110) (⟨r33, 1, none⟩ : Addr) = some (Slc.v s121) ∧
                  needSome s121.p fun a122 =>
                  0 ≤ n111 ∧ n111 < ((s121.l : Nat) : Int) ∧
                  ∃ s123 : Slc, World.cell? (World.drew w110) (Addr.add a122 ((Int.toNat n111) * 1)) = some (Slc.v s123) ∧
                  newS (World.drew w110) (.cells ⟨[(Value.int .i64 fresh4)]⟩ 3) fun r124 w125 =>
                  (∃ s126 : Slc, World.cell? w125 (Addr.add a122 ((Int.toNat n111) * 1)) = some (Slc.v s126) ∧
                  (Slc.v s126) = (Slc.v s123)) ∧
                  (∃ s127 : Slc, World.cell? w125 (⟨r33, 1, none⟩ : Addr) = some (Slc.v s127) ∧
                  (Slc.v s127) = (Slc.v s121)) ∧
                  (∃ s128 : Slc, World.cell? w125 (⟨r33, 1, none⟩ : Addr) = some (Slc.v s128) ∧
                  (Slc.v s128) = (Slc.v s120)) ∧
                  appendS 1 3 [(Value.int .i64 (0 : Int))] w125 s123 (.slc (⟨(some (⟨r124, 0, none⟩ : Addr)), 1, 1⟩ : Slc)) fun s129 w130 =>
                  (∃ s131 : Slc, World.cell? w130 (⟨r33, 1, none⟩ : Addr) = some (Slc.v s131) ∧
                  (Slc.v s131) = (Slc.v s120)) ∧
                  needSome s120.p fun a132 =>
                  0 ≤ n111 ∧ n111 < ((s120.l : Nat) : Int) ∧
                  canW w130 (Addr.add a132 ((Int.toNat n111) * 1)) 1 ∧ ∀ w133 : World, w133 = World.setCell w130 (Addr.add a132 ((Int.toNat n111) * 1)) (Slc.v s129) →
                  ∃ n134 : Int, ∃ s135 : Slc, rowAt w133 (⟨r33, 0, none⟩ : Addr) 0 [(Value.int .i64 n134), (Slc.v s135)] ∧
                  canW w133 (⟨r9, 0, none⟩ : Addr) 2 ∧ ∀ w136 : World, w136 = setCells w133 (⟨r9, 0, none⟩ : Addr) 0 [(Value.int .i64 n134), (Slc.v s135)] →
                  ∃ n137 : Int, ∃ s138 : Slc, rowAt w136 (⟨r9, 0, none⟩ : Addr) 0 [(Value.int .i64 n137), (Slc.v s138)] ∧
                  K (Value.tuple ⟨[(Value.agg ⟨[(Value.int .i64 n137), (Slc.v s138)]⟩), Value.nilIface]⟩) w136))))))))

theorem plan_Replace_eq (p1 : Int) (p2 : Slc) (gone3 : Slc) (fresh4 : Int) (w : World) (K : Value → World → Prop) : plan_Replace p1 p2 gone3 fresh4 w K = denF Tryd.prog callB Tryd.f20 (.two .none (.two .none (.two .none (.two .none (.two (.two .none (.one (.loop [(33, (Sh.int .i64))] [7, 9, 10, 34, 35, 36, 37, 38, 39, 40, 41, 42, 43, 44, 45, 46, 47, 48, 49, 50, 51, 52, 53, 54] .none))) .none))))) [(Value.agg ⟨[(Value.int .i64 p1), (Slc.v p2)]⟩), (Slc.v gone3), (Value.int .i64 fresh4)] w K := by kernel_rfl
theorem plan_Replace_ok (p1 : Int) (p2 : Slc) (gone3 : Slc) (fresh4 : Int) {w : World} {R : Ending → World → Prop} (h : plan_Replace p1 p2 gone3 fresh4 w fun v w' => R (.returned v) w') : Calls Tryd.prog fn_plan_Replace ⟨[(Value.agg ⟨[(Value.int .i64 p1), (Slc.v p2)]⟩), (Slc.v gone3), (Value.int .i64 fresh4)]⟩ w R :=
  calls_of_den callB_ok mixed Tryd.func20 (plan_Replace_eq p1 p2 gone3 fresh4 w _ ▸ h)

end Go.D
