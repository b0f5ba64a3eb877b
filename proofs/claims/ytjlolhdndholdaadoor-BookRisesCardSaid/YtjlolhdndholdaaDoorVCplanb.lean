/-
  WHAT IS PROVED: verification conditions of functions of this program, each with its soundness. No further conditions.
-/
import Derived.Test.YtjlolhdndholdaaDoorBase
set_option linter.unusedSimpArgs false
set_option maxRecDepth 100000
set_option linter.unusedVariables false
namespace Go.D
open Go Go.Proofs
/-- tidewater/plan.Bytes -/
def plan_Bytes (p1 : Int) (p2 : Slc) (w : World) (K : Value → World → Prop) : Prop :=
  newS w (.cells ⟨[(Value.int .i64 p1), (Slc.v p2)]⟩ 27) fun r3 w4 =>
  ∃ n5 : Int, ∃ s6 : Slc, rowAt w4 (⟨r3, 0, none⟩ : Addr) 0 [(Value.int .i64 n5), (Slc.v s6)] ∧
  Calls Tryd.prog fn_plan_Right ⟨[(Value.agg ⟨[(Value.int .i64 n5), (Slc.v s6)]⟩)]⟩ w4 fun e7 w8 =>
  ∃ b9 : Bool, e7 = .returned (Value.bool b9) ∧
  BIf (!b9) (
    ∃ v10 : Value, World.cell? (World.drew w8) (⟨gl_ErrForm, 0, none⟩ : Addr) = some v10 ∧
    K (Value.tuple ⟨[(Slc.v (⟨none, 0, 0⟩ : Slc)), v10]⟩) (World.drew w8)) (
    newS w8 (.cells ⟨[(Slc.v (⟨none, 0, 0⟩ : Slc)), Value.nilIface]⟩ 94) fun r11 w12 =>
    ∃ n13 : Int, World.cell? w12 (⟨r3, 0, none⟩ : Addr) = some (Value.int .i64 n13) ∧
    Calls Tryd.prog fn_pack_Out_Num ⟨[(Value.pointer (some (⟨r11, 0, none⟩ : Addr))), (Value.int .i64 n13)]⟩ w12 fun e14 w15 =>
    e14 = .returned (Value.tuple #[]) ∧
    ∃ s16 : Slc, World.cell? w15 (⟨r3, 1, none⟩ : Addr) = some (Slc.v s16) ∧
    Calls Tryd.prog fn_pack_Out_Num ⟨[(Value.pointer (some (⟨r11, 0, none⟩ : Addr))), (Value.int .i64 ((s16.l : Nat) : Int))]⟩ w15 fun e17 w18 =>
    e17 = .returned (Value.tuple #[]) ∧
    ∃ s19 : Slc, World.cell? w18 (⟨r3, 1, none⟩ : Addr) = some (Slc.v s19) ∧
    ∃ (I20 : (Int) → World → Prop) (mu21 : (Int) → World → Nat), I20 ((0 : Int)) w18 ∧ (
    ∀ i22 : Int, ∀ w23 : World, I20 i22 w23 → ∀ u24 u25 u26 u27 u28 u29 u30 u31 : Value,
      BIf (decide (i22 < ((s19.l : Nat) : Int))) (
        needSome s19.p fun a32 =>
        0 ≤ i22 ∧ i22 < ((s19.l : Nat) : Int) ∧
        ∃ s33 : Slc, World.cell? w23 (Addr.add a32 ((Int.toNat i22) * 1)) = some (Slc.v s33) ∧
        Calls Tryd.prog fn_pack_Out_Nums ⟨[(Value.pointer (some (⟨r11, 0, none⟩ : Addr))), (Slc.v s33)]⟩ w23 fun e34 w35 =>
        e34 = .returned (Value.tuple #[]) ∧
        inR .i64 (i22 + (1 : Int)) ∧
        (I20 ((i22 + (1 : Int))) w35 ∧ mu21 ((i22 + (1 : Int))) w35 < mu21 i22 w23)) (
        Calls Tryd.prog fn_pack_Out_Done ⟨[(Value.pointer (some (⟨r11, 0, none⟩ : Addr)))]⟩ w23 fun e36 w37 =>
        ∃ s38 : Slc, ∃ e39 : Value, e36 = .returned (Value.tuple ⟨[(Slc.v s38), e39]⟩) ∧
        K (Value.tuple ⟨[(Slc.v s38), e39]⟩) w37)))

theorem plan_Bytes_eq (p1 : Int) (p2 : Slc) (w : World) (K : Value → World → Prop) : plan_Bytes p1 p2 w K = denF Tryd.prog callB Tryd.f26 (.two .none (.two .none (.two .none (.two .none (.two .none (.two (.two .none (.one (.loop [(25, (Sh.int .i64))] [6, 26, 27, 28, 29, 30, 31, 32] .none))) .none)))))) [(Value.agg ⟨[(Value.int .i64 p1), (Slc.v p2)]⟩)] w K := by kernel_rfl
theorem plan_Bytes_ok (p1 : Int) (p2 : Slc) {w : World} {R : Ending → World → Prop} (h : plan_Bytes p1 p2 w fun v w' => R (.returned v) w') : Calls Tryd.prog fn_plan_Bytes ⟨[(Value.agg ⟨[(Value.int .i64 p1), (Slc.v p2)]⟩)]⟩ w R :=
  calls_of_den callB_ok mixed Tryd.func26 (plan_Bytes_eq p1 p2 w _ ▸ h)

/-- tidewater/plan.Read -/
def plan_Read (b1 : Slc) (w : World) (K : Value → World → Prop) : Prop :=
  newS w (.cells ⟨[(Value.int .i64 (0 : Int)), (Slc.v (⟨none, 0, 0⟩ : Slc))]⟩ 27) fun r2 w3 =>
  Calls Tryd.prog fn_pack_Read ⟨[(Slc.v b1)]⟩ w3 fun e4 w5 =>
  ∃ p6 : Option Addr, e4 = .returned (Value.pointer p6) ∧
  Calls Tryd.prog fn_pack_In_Num ⟨[(Value.pointer p6), (Value.int .i64 (1073741824 : Int))]⟩ w5 fun e7 w8 =>
  ∃ n9 : Int, e7 = .returned (Value.int .i64 n9) ∧
  newS w8 (.cells ⟨[(Value.int .i64 (0 : Int)), (Slc.v (⟨none, 0, 0⟩ : Slc))]⟩ 27) fun r10 w11 =>
  canW w11 (⟨r10, 0, none⟩ : Addr) 2 ∧ ∀ w12 : World, w12 = setCells w11 (⟨r10, 0, none⟩ : Addr) 0 [(Value.int .i64 n9), (Slc.v (⟨none, 0, 0⟩ : Slc))] →
  Calls Tryd.prog fn_pack_In_Num ⟨[(Value.pointer p6), (Value.int .i64 (3 : Int))]⟩ w12 fun e13 w14 =>
  ∃ n15 : Int, e13 = .returned (Value.int .i64 n15) ∧
  ∃ (I16 : World → Prop) (mu17 : World → Nat), I16 w14 ∧ (
  ∀ w18 : World, I16 w18 → ∀ u19 u20 u21 u22 u23 u24 u25 u26 u27 u28 u29 u30 : Value,
    ∃ s31 : Slc, World.cell? w18 (⟨r10, 1, none⟩ : Addr) = some (Slc.v s31) ∧
    BIf (decide (((s31.l : Nat) : Int) < n15)) (
      ∃ s32 : Slc, World.cell? (World.drew w18) (⟨r10, 1, none⟩ : Addr) = some (Slc.v s32) ∧
      Calls Tryd.prog fn_pack_In_Nums ⟨[(Value.pointer p6), (Value.int .i64 (3 : Int)), (Value.int .i64 (12 : Int))]⟩ (World.drew w18) fun e33 w34 =>
      ∃ s35 : Slc, e33 = .returned (Slc.v s35) ∧
      (∃ s36 : Slc, World.cell? w34 (⟨r10, 1, none⟩ : Addr) = some (Slc.v s36) ∧
      (Slc.v s36) = (Slc.v s32)) ∧
      newS w34 (.cells ⟨[(Slc.v s35)]⟩ 22) fun r37 w38 =>
      (∃ s39 : Slc, World.cell? w38 (⟨r10, 1, none⟩ : Addr) = some (Slc.v s39) ∧
      (Slc.v s39) = (Slc.v s32)) ∧
      appendS 1 22 [(Slc.v (⟨none, 0, 0⟩ : Slc))] w38 s32 (.slc (⟨(some (⟨r37, 0, none⟩ : Addr)), 1, 1⟩ : Slc)) fun s40 w41 =>
      canW w41 (⟨r10, 1, none⟩ : Addr) 1 ∧ ∀ w42 : World, w42 = World.setCell w41 (⟨r10, 1, none⟩ : Addr) (Slc.v s40) →
      (I16 w42 ∧ mu17 w42 < mu17 w18)) (
      Calls Tryd.prog fn_pack_In_End ⟨[(Value.pointer p6)]⟩ w18 fun e43 w44 =>
      ∃ e45 : Value, e43 = .returned e45 ∧
      isI e45 ∧
      BIf (!isNilI e45) (
        canW w44 (⟨r2, 0, none⟩ : Addr) 2 ∧ ∀ w46 : World, w46 = setCells w44 (⟨r2, 0, none⟩ : Addr) 0 [(Value.int .i64 (0 : Int)), (Slc.v (⟨none, 0, 0⟩ : Slc))] →
        ∃ n47 : Int, ∃ s48 : Slc, rowAt w46 (⟨r2, 0, none⟩ : Addr) 0 [(Value.int .i64 n47), (Slc.v s48)] ∧
        K (Value.tuple ⟨[(Value.agg ⟨[(Value.int .i64 n47), (Slc.v s48)]⟩), e45]⟩) w46) (
        ∃ n49 : Int, ∃ s50 : Slc, rowAt w44 (⟨r10, 0, none⟩ : Addr) 0 [(Value.int .i64 n49), (Slc.v s50)] ∧
        Calls Tryd.prog fn_plan_Right ⟨[(Value.agg ⟨[(Value.int .i64 n49), (Slc.v s50)]⟩)]⟩ w44 fun e51 w52 =>
        ∃ b53 : Bool, e51 = .returned (Value.bool b53) ∧
        BIf (!b53) (
          ∃ v54 : Value, World.cell? (World.drew w52) (⟨gl_ErrForm, 0, none⟩ : Addr) = some v54 ∧
          canW (World.drew w52) (⟨r2, 0, none⟩ : Addr) 2 ∧ ∀ w55 : World, w55 = setCells (World.drew w52) (⟨r2, 0, none⟩ : Addr) 0 [(Value.int .i64 (0 : Int)), (Slc.v (⟨none, 0, 0⟩ : Slc))] →
          (∃ v56 : Value, World.cell? w55 (⟨gl_ErrForm, 0, none⟩ : Addr) = some v56 ∧
          v56 = v54) ∧
          ∃ n57 : Int, ∃ s58 : Slc, rowAt w55 (⟨r2, 0, none⟩ : Addr) 0 [(Value.int .i64 n57), (Slc.v s58)] ∧
          K (Value.tuple ⟨[(Value.agg ⟨[(Value.int .i64 n57), (Slc.v s58)]⟩), v54]⟩) w55) (
          ∃ n59 : Int, ∃ s60 : Slc, rowAt w52 (⟨r10, 0, none⟩ : Addr) 0 [(Value.int .i64 n59), (Slc.v s60)] ∧
          canW w52 (⟨r2, 0, none⟩ : Addr) 2 ∧ ∀ w61 : World, w61 = setCells w52 (⟨r2, 0, none⟩ : Addr) 0 [(Value.int .i64 n59), (Slc.v s60)] →
          ∃ n62 : Int, ∃ s63 : Slc, rowAt w61 (⟨r2, 0, none⟩ : Addr) 0 [(Value.int .i64 n62), (Slc.v s63)] ∧
          K (Value.tuple ⟨[(Value.agg ⟨[(Value.int .i64 n62), (Slc.v s63)]⟩), Value.nilIface]⟩) w61))))

theorem plan_Read_eq (b1 : Slc) (w : World) (K : Value → World → Prop) : plan_Read b1 w K = denF Tryd.prog callB Tryd.f34 (.two .none (.two .none (.two .none (.two (.two .none (.one (.loop [] [15, 16, 17, 18, 19, 20, 21, 22, 23, 24, 25, 26] .none))) .none)))) [(Slc.v b1)] w K := by kernel_rfl
theorem plan_Read_ok (b1 : Slc) {w : World} {R : Ending → World → Prop} (h : plan_Read b1 w fun v w' => R (.returned v) w') : Calls Tryd.prog fn_plan_Read ⟨[(Slc.v b1)]⟩ w R :=
  calls_of_den callB_ok mixed Tryd.func34 (plan_Read_eq b1 w _ ▸ h)

/-- tidewater/plan.Same$1 -/
def plan_Same_1 (x1 : Slc) (y2 : Slc) (w : World) (K : Value → World → Prop) : Prop :=
  Calls Tryd.prog fn_slices_Equal_int ⟨[(Slc.v x1), (Slc.v y2)]⟩ w fun e3 w4 =>
  ∃ b5 : Bool, e3 = .returned (Value.bool b5) ∧
  K (Value.bool b5) w4

theorem plan_Same_1_eq (x1 : Slc) (y2 : Slc) (w : World) (K : Value → World → Prop) : plan_Same_1 x1 y2 w K = denF Tryd.prog callB Tryd.f36 .none [(Slc.v x1), (Slc.v y2)] w K := by kernel_rfl
theorem plan_Same_1_ok (x1 : Slc) (y2 : Slc) {w : World} {R : Ending → World → Prop} (h : plan_Same_1 x1 y2 w fun v w' => R (.returned v) w') : Calls Tryd.prog fn_plan_Same_1 ⟨[(Slc.v x1), (Slc.v y2)]⟩ w R :=
  calls_of_den callB_ok mixed Tryd.func36 (plan_Same_1_eq x1 y2 w _ ▸ h)

/-- slices.Equal[[]int,int] -/
def slices_Equal_int (s1 : Slc) (s2 : Slc) (w : World) (K : Value → World → Prop) : Prop :=
  BIf (!decide (((s1.l : Nat) : Int) = ((s2.l : Nat) : Int))) (
    K (Value.bool false) w) (
    ∃ (I3 : (Int) → World → Prop) (mu4 : (Int) → World → Nat), I3 ((0 : Int)) w ∧ (
    ∀ i5 : Int, ∀ w6 : World, I3 i5 w6 → ∀ u7 u8 u9 u10 u11 u12 u13 u14 u15 u16 u17 u18 u19 u20 : Value,
      BIf (decide (i5 < ((s1.l : Nat) : Int))) (
        needSome s1.p fun a21 =>
        0 ≤ i5 ∧ i5 < ((s1.l : Nat) : Int) ∧
        ∃ n22 : Int, World.cell? (World.drew w6) (Addr.add a21 ((Int.toNat i5) * 1)) = some (Value.int .i64 n22) ∧
        needSome s2.p fun a23 =>
        0 ≤ i5 ∧ i5 < ((s2.l : Nat) : Int) ∧
        ∃ n24 : Int, World.cell? (World.drew w6) (Addr.add a23 ((Int.toNat i5) * 1)) = some (Value.int .i64 n24) ∧
        BIf (!decide (n22 = n24)) (
          K (Value.bool false) (World.drew w6)) (
          inR .i64 (i5 + (1 : Int)) ∧
          (I3 ((i5 + (1 : Int))) (World.drew w6) ∧ mu4 ((i5 + (1 : Int))) (World.drew w6) < mu4 i5 w6))) (
        K (Value.bool true) w6)))

theorem slices_Equal_int_eq (s1 : Slc) (s2 : Slc) (w : World) (K : Value → World → Prop) : slices_Equal_int s1 s2 w K = denF Tryd.prog callB Tryd.f37 (.two .none (.two .none (.two (.two .none (.one (.loop [(13, (Sh.int .i64))] [4, 5, 14, 15, 16, 17, 18, 19, 20, 21, 22, 23, 24, 25] .none))) .none))) [(Slc.v s1), (Slc.v s2)] w K := by kernel_rfl
theorem slices_Equal_int_ok (s1 : Slc) (s2 : Slc) {w : World} {R : Ending → World → Prop} (h : slices_Equal_int s1 s2 w fun v w' => R (.returned v) w') : Calls Tryd.prog fn_slices_Equal_int ⟨[(Slc.v s1), (Slc.v s2)]⟩ w R :=
  calls_of_den callB_ok mixed Tryd.func37 (slices_Equal_int_eq s1 s2 w _ ▸ h)

/-- slices.EqualFunc[[][]int,[][]int,[]int,[]int] -/
def slices_EqualFunc_Sint_plan_Same_1 (s1 : Slc) (s2 : Slc) (w : World) (K : Value → World → Prop) : Prop :=
  BIf (!decide (((s1.l : Nat) : Int) = ((s2.l : Nat) : Int))) (
    K (Value.bool false) w) (
    ∃ (I3 : (Int) → World → Prop) (mu4 : (Int) → World → Nat), I3 ((0 : Int)) w ∧ (
    ∀ i5 : Int, ∀ w6 : World, I3 i5 w6 → ∀ u7 u8 u9 u10 u11 u12 u13 u14 u15 u16 u17 u18 u19 u20 u21 u22 u23 u24 : Value,
      BIf (decide (i5 < ((s1.l : Nat) : Int))) (
        needSome s1.p fun a25 =>
        0 ≤ i5 ∧ i5 < ((s1.l : Nat) : Int) ∧
        ∃ s26 : Slc, World.cell? w6 (Addr.add a25 ((Int.toNat i5) * 1)) = some (Slc.v s26) ∧
        needSome s2.p fun a27 =>
        0 ≤ i5 ∧ i5 < ((s2.l : Nat) : Int) ∧
        ∃ s28 : Slc, World.cell? w6 (Addr.add a27 ((Int.toNat i5) * 1)) = some (Slc.v s28) ∧
        Calls Tryd.prog fn_plan_Same_1 ⟨[(Slc.v s26), (Slc.v s28)]⟩ w6 fun e29 w30 =>
        ∃ b31 : Bool, e29 = .returned (Value.bool b31) ∧
        BIf (!b31) (
          K (Value.bool false) w30) (
          inR .i64 (i5 + (1 : Int)) ∧
          (I3 ((i5 + (1 : Int))) w30 ∧ mu4 ((i5 + (1 : Int))) w30 < mu4 i5 w6))) (
        K (Value.bool true) w6)))

theorem slices_EqualFunc_Sint_plan_Same_1_eq (s1 : Slc) (s2 : Slc) (w : World) (K : Value → World → Prop) : slices_EqualFunc_Sint_plan_Same_1 s1 s2 w K = denF Tryd.prog callB Tryd.f35 (.two .none (.two .none (.two (.two .none (.one (.loop [(17, (Sh.int .i64))] [6, 7, 8, 9, 18, 19, 20, 21, 22, 23, 24, 25, 26, 27, 28, 29, 30, 31] .none))) .none))) [(Slc.v s1), (Slc.v s2), (Value.func (.func 36) ⟨[]⟩ ⟨[]⟩)] w K := by kernel_rfl
theorem slices_EqualFunc_Sint_plan_Same_1_ok (s1 : Slc) (s2 : Slc) {w : World} {R : Ending → World → Prop} (h : slices_EqualFunc_Sint_plan_Same_1 s1 s2 w fun v w' => R (.returned v) w') : Calls Tryd.prog fn_slices_EqualFunc_Sint ⟨[(Slc.v s1), (Slc.v s2), (Value.func (.func 36) ⟨[]⟩ ⟨[]⟩)]⟩ w R :=
  calls_of_den callB_ok mixed Tryd.func35 (slices_EqualFunc_Sint_plan_Same_1_eq s1 s2 w _ ▸ h)

/-- tidewater/plan.Same -/
def plan_Same (a1 : Int) (a2 : Slc) (b3 : Int) (b4 : Slc) (w : World) (K : Value → World → Prop) : Prop :=
  newS w (.cells ⟨[(Value.int .i64 a1), (Slc.v a2)]⟩ 27) fun r5 w6 =>
  newS w6 (.cells ⟨[(Value.int .i64 b3), (Slc.v b4)]⟩ 27) fun r7 w8 =>
  ∃ n9 : Int, ∃ s10 : Slc, rowAt w8 (⟨r5, 0, none⟩ : Addr) 0 [(Value.int .i64 n9), (Slc.v s10)] ∧
  Calls Tryd.prog fn_plan_Right ⟨[(Value.agg ⟨[(Value.int .i64 n9), (Slc.v s10)]⟩)]⟩ w8 fun e11 w12 =>
  ∃ b13 : Bool, e11 = .returned (Value.bool b13) ∧
  BIf b13 (
    ∃ n14 : Int, ∃ s15 : Slc, rowAt w12 (⟨r7, 0, none⟩ : Addr) 0 [(Value.int .i64 n14), (Slc.v s15)] ∧
    Calls Tryd.prog fn_plan_Right ⟨[(Value.agg ⟨[(Value.int .i64 n14), (Slc.v s15)]⟩)]⟩ w12 fun e16 w17 =>
    ∃ b18 : Bool, e16 = .returned (Value.bool b18) ∧
    BIf b18 (
      ∃ n19 : Int, World.cell? w17 (⟨r5, 0, none⟩ : Addr) = some (Value.int .i64 n19) ∧
      ∃ n20 : Int, World.cell? w17 (⟨r7, 0, none⟩ : Addr) = some (Value.int .i64 n20) ∧
      BIf (decide (n19 = n20)) (
        ∃ s21 : Slc, World.cell? w17 (⟨r5, 1, none⟩ : Addr) = some (Slc.v s21) ∧
        ∃ s22 : Slc, World.cell? w17 (⟨r7, 1, none⟩ : Addr) = some (Slc.v s22) ∧
        Calls Tryd.prog fn_slices_EqualFunc_Sint ⟨[(Slc.v s21), (Slc.v s22), (Value.func (.func 36) ⟨[]⟩ ⟨[]⟩)]⟩ w17 fun e23 w24 =>
        ∃ b25 : Bool, e23 = .returned (Value.bool b25) ∧
        K (Value.bool b25) w24) (
        K (Value.bool false) w17)) (
      K (Value.bool false) w17)) (
    K (Value.bool false) w12)

theorem plan_Same_eq (a1 : Int) (a2 : Slc) (b3 : Int) (b4 : Slc) (w : World) (K : Value → World → Prop) : plan_Same a1 a2 b3 b4 w K = denF Tryd.prog callB Tryd.f12 .none [(Value.agg ⟨[(Value.int .i64 a1), (Slc.v a2)]⟩), (Value.agg ⟨[(Value.int .i64 b3), (Slc.v b4)]⟩)] w K := by kernel_rfl
theorem plan_Same_ok (a1 : Int) (a2 : Slc) (b3 : Int) (b4 : Slc) {w : World} {R : Ending → World → Prop} (h : plan_Same a1 a2 b3 b4 w fun v w' => R (.returned v) w') : Calls Tryd.prog fn_plan_Same ⟨[(Value.agg ⟨[(Value.int .i64 a1), (Slc.v a2)]⟩), (Value.agg ⟨[(Value.int .i64 b3), (Slc.v b4)]⟩)]⟩ w R :=
  calls_of_den callB_ok mixed Tryd.func12 (plan_Same_eq a1 a2 b3 b4 w _ ▸ h)

end Go.D
