/-
  WHAT IS PROVED: verification conditions of functions of this program, each with its soundness. No further conditions.
-/
import Derived.Test.YtjlolhdndholdaaDoorBase
set_option linter.unusedSimpArgs false
set_option maxRecDepth 100000
set_option linter.unusedVariables false
namespace Go.D
open Go Go.Proofs
/-- slices.Grow[[]int,int] -/
def slices_Grow_int (s1 : Slc) (n2 : Int) (w : World) (K : Value → World → Prop) : Prop :=
  ∃ J3 : World → Prop,
  (
    BIf (decide (n2 < (0 : Int))) (
      False) (
      J3 w)) ∧ (
  ∀ w4 : World, J3 w4 → ∀ u5 u6 u7 : Value,
    inR .i64 (((s1.c : Nat) : Int) - ((s1.l : Nat) : Int)) ∧
    inR .i64 (n2 - (((s1.c : Nat) : Int) - ((s1.l : Nat) : Int))) ∧
    BIf (decide ((0 : Int) < (n2 - (((s1.c : Nat) : Int) - ((s1.l : Nat) : Int))))) (
      0 ≤ (0 : Int) ∧ (0 : Int) ≤ ((s1.c : Nat) : Int) ∧ ((s1.c : Nat) : Int) ≤ ((s1.c : Nat) : Int) ∧ ((s1.c : Nat) : Int) ≤ ((s1.c : Nat) : Int) ∧
      appendZS 1 3 [(Value.int .i64 (0 : Int))] w4 (Slc.sub s1 1 0 s1.c s1.c) (n2 - (((s1.c : Nat) : Int) - ((s1.l : Nat) : Int))) fun s9 w10 =>
      0 ≤ (0 : Int) ∧ (0 : Int) ≤ ((s1.l : Nat) : Int) ∧ ((s1.l : Nat) : Int) ≤ ((s9.c : Nat) : Int) ∧ ((s9.c : Nat) : Int) ≤ ((s9.c : Nat) : Int) ∧
      K (Slc.v (Slc.sub s9 1 0 s1.l s9.c)) w10) (
      K (Slc.v s1) w4))

theorem slices_Grow_int_eq (s1 : Slc) (n2 : Int) (w : World) (K : Value → World → Prop) : slices_Grow_int s1 n2 w K = denF Tryd.prog callB Tryd.f58 (.two .none (.cut [] [5, 6, 7] .none .none)) [(Slc.v s1), (Value.int .i64 n2)] w K := by kernel_rfl
theorem slices_Grow_int_ok (s1 : Slc) (n2 : Int) {w : World} {R : Ending → World → Prop} (h : slices_Grow_int s1 n2 w fun v w' => R (.returned v) w') : Calls Tryd.prog fn_slices_Grow_int ⟨[(Slc.v s1), (Value.int .i64 n2)]⟩ w R :=
  calls_of_den callB_ok mixed Tryd.func58 (slices_Grow_int_eq s1 n2 w _ ▸ h)

/-- slices.Concat[[]int,int] -/
def slices_Concat_int (slices1 : Slc) (w : World) (K : Value → World → Prop) : Prop :=
  ∃ (I2 : (Int) → (Int) → World → Prop) (mu3 : (Int) → (Int) → World → Nat), I2 ((0 : Int)) ((0 : Int)) w ∧ (
  ∀ size4 : Int, ∀ i5 : Int, ∀ w6 : World, I2 size4 i5 w6 → ∀ u7 u8 u9 u10 u11 u12 u13 u14 u15 u16 u17 u18 : Value,
    BIf (decide (i5 < ((slices1.l : Nat) : Int))) (
      needSome slices1.p fun a19 =>
      0 ≤ i5 ∧ i5 < ((slices1.l : Nat) : Int) ∧
      ∃ s20 : Slc, World.cell? w6 (Addr.add a19 ((Int.toNat i5) * 1)) = some (Slc.v s20) ∧
      inR .i64 (size4 + ((s20.l : Nat) : Int)) ∧
      BIf (decide ((size4 + ((s20.l : Nat) : Int)) < (0 : Int))) (
        False) (
        inR .i64 (i5 + (1 : Int)) ∧
        (I2 ((size4 + ((s20.l : Nat) : Int))) ((i5 + (1 : Int))) w6 ∧ mu3 ((size4 + ((s20.l : Nat) : Int))) ((i5 + (1 : Int))) w6 < mu3 size4 i5 w6))) (
      Calls Tryd.prog fn_slices_Grow_int ⟨[(Slc.v (⟨none, 0, 0⟩ : Slc)), (Value.int .i64 size4)]⟩ w6 fun e21 w22 =>
      ∃ s23 : Slc, e21 = .returned (Slc.v s23) ∧
      ∃ (I24 : (Slc) → (Int) → World → Prop) (mu25 : (Slc) → (Int) → World → Nat), I24 (s23) ((0 : Int)) w22 ∧ (
      ∀ newslice26 : Slc, ∀ i27 : Int, ∀ w28 : World, I24 newslice26 i27 w28 → ∀ u29 u30 u31 u32 u33 u34 u35 u36 : Value,
        BIf (decide (i27 < ((slices1.l : Nat) : Int))) (
          needSome slices1.p fun a37 =>
          0 ≤ i27 ∧ i27 < ((slices1.l : Nat) : Int) ∧
          ∃ s38 : Slc, World.cell? w28 (Addr.add a37 ((Int.toNat i27) * 1)) = some (Slc.v s38) ∧
          appendS 1 3 [(Value.int .i64 (0 : Int))] w28 newslice26 (.slc s38) fun s39 w40 =>
          inR .i64 (i27 + (1 : Int)) ∧
          (I24 (s39) ((i27 + (1 : Int))) w40 ∧ mu25 (s39) ((i27 + (1 : Int))) w40 < mu25 newslice26 i27 w28)) (
          K (Slc.v newslice26) w28))))

theorem slices_Concat_int_eq (slices1 : Slc) (w : World) (K : Value → World → Prop) : slices_Concat_int slices1 w K = denF Tryd.prog callB Tryd.f42 (.two .none (.two .none (.two (.two .none (.one (.loop [(3, (Sh.int .i64)), (11, (Sh.int .i64))] [5, 12, 13, 14, 15, 16, 17, 18, 19, 20, 21, 22] .none))) (.two .none (.two (.two .none (.one (.loop [(6, Sh.slc), (27, (Sh.int .i64))] [8, 28, 29, 30, 31, 32, 33, 34] .none))) .none))))) [(Slc.v slices1)] w K := by kernel_rfl
theorem slices_Concat_int_ok (slices1 : Slc) {w : World} {R : Ending → World → Prop} (h : slices_Concat_int slices1 w fun v w' => R (.returned v) w') : Calls Tryd.prog fn_slices_Concat_int ⟨[(Slc.v slices1)]⟩ w R :=
  calls_of_den callB_ok mixed Tryd.func42 (slices_Concat_int_eq slices1 w _ ▸ h)

/-- tidewater/plan.all -/
def plan_all (p1 : Int) (p2 : Slc) (w : World) (K : Value → World → Prop) : Prop :=
  newS w (.cells ⟨[(Value.int .i64 p1), (Slc.v p2)]⟩ 27) fun r3 w4 =>
  ∃ s5 : Slc, World.cell? w4 (⟨r3, 1, none⟩ : Addr) = some (Slc.v s5) ∧
  Calls Tryd.prog fn_slices_Concat_int ⟨[(Slc.v s5)]⟩ w4 fun e6 w7 =>
  ∃ s8 : Slc, e6 = .returned (Slc.v s8) ∧
  Calls Tryd.prog fn_slices_Sort_int ⟨[(Slc.v s8)]⟩ w7 fun e9 w10 =>
  e9 = .returned (Value.tuple #[]) ∧
  K (Slc.v s8) w10

theorem plan_all_eq (p1 : Int) (p2 : Slc) (w : World) (K : Value → World → Prop) : plan_all p1 p2 w K = denF Tryd.prog callB Tryd.f22 .none [(Value.agg ⟨[(Value.int .i64 p1), (Slc.v p2)]⟩)] w K := by kernel_rfl
theorem plan_all_ok (p1 : Int) (p2 : Slc) {w : World} {R : Ending → World → Prop} (h : plan_all p1 p2 w fun v w' => R (.returned v) w') : Calls Tryd.prog fn_plan_all ⟨[(Value.agg ⟨[(Value.int .i64 p1), (Slc.v p2)]⟩)]⟩ w R :=
  calls_of_den callB_ok mixed Tryd.func22 (plan_all_eq p1 p2 w _ ▸ h)

/-- slices.Clone[[]int,int] -/
def slices_Clone_int (s1 : Slc) (w : World) (K : Value → World → Prop) : Prop :=
  BIf (Option.isNone (s1.p : Option Addr)) (
    K (Slc.v (⟨none, 0, 0⟩ : Slc)) w) (
    newS w (.cells ⟨[]⟩ 3) fun r2 w3 =>
    appendS 1 3 [(Value.int .i64 (0 : Int))] w3 (⟨(some (⟨r2, 0, none⟩ : Addr)), 0, 0⟩ : Slc) (.slc s1) fun s4 w5 =>
    K (Slc.v s4) w5)

theorem slices_Clone_int_eq (s1 : Slc) (w : World) (K : Value → World → Prop) : slices_Clone_int s1 w K = denF Tryd.prog callB Tryd.f24 .none [(Slc.v s1)] w K := by kernel_rfl
theorem slices_Clone_int_ok (s1 : Slc) {w : World} {R : Ending → World → Prop} (h : slices_Clone_int s1 w fun v w' => R (.returned v) w') : Calls Tryd.prog fn_slices_Clone_int ⟨[(Slc.v s1)]⟩ w R :=
  calls_of_den callB_ok mixed Tryd.func24 (slices_Clone_int_eq s1 w _ ▸ h)

/-- slices.Compact[[]int,int] -/
def slices_Compact_int (s1 : Slc) (w : World) (K : Value → World → Prop) : Prop :=
  BIf (decide (((s1.l : Nat) : Int) < (2 : Int))) (
    K (Slc.v s1) w) (
    ∃ (I2 : (Int) → World → Prop) (mu3 : (Int) → World → Nat), I2 ((1 : Int)) w ∧ (
    ∀ k4 : Int, ∀ w5 : World, I2 k4 w5 → ∀ u6 u7 u8 u9 u10 u11 u12 u13 u14 u15 u16 u17 u18 u19 u20 u21 u22 u23 u24 u25 u26 u27 u28 u29 u30 u31 u32 u33 u34 u35 u36 u37 u38 u39 u40 u41 u42 u43 u44 u45 u46 u47 u48 u49 u50 u51 u52 u53 u54 u55 u56 u57 u58 : Value,
      BIf (decide (k4 < ((s1.l : Nat) : Int))) (
        needSome s1.p fun a59 =>
        0 ≤ k4 ∧ k4 < ((s1.l : Nat) : Int) ∧
        ∃ n60 : Int, World.cell? (World.drew w5) (Addr.add a59 ((Int.toNat k4) * 1)) = some (Value.int .i64 n60) ∧
        inR .i64 (k4 - (1 : Int)) ∧
        needSome s1.p fun a61 =>
        0 ≤ (k4 - (1 : Int)) ∧ (k4 - (1 : Int)) < ((s1.l : Nat) : Int) ∧
        ∃ n62 : Int, World.cell? (World.drew w5) (Addr.add a61 ((Int.toNat (k4 - (1 : Int))) * 1)) = some (Value.int .i64 n62) ∧
        BIf (decide (n60 = n62)) (
          0 ≤ k4 ∧ k4 ≤ ((s1.l : Nat) : Int) ∧ ((s1.l : Nat) : Int) ≤ ((s1.c : Nat) : Int) ∧ ((s1.c : Nat) : Int) ≤ ((s1.c : Nat) : Int) ∧
          ∃ (I64 : (Int) → (Int) → World → Prop) (mu65 : (Int) → (Int) → World → Nat), I64 (k4) ((1 : Int)) (World.drew w5) ∧ (
          ∀ k66 : Int, ∀ i67 : Int, ∀ w68 : World, I64 k66 i67 w68 → ∀ u69 u70 u71 u72 u73 u74 u75 u76 u77 u78 u79 u80 u81 u82 u83 u84 u85 u86 u87 u88 u89 u90 u91 u92 u93 : Value,
            BIf (decide (i67 < (((Slc.sub s1 1 (Int.toNat k4) s1.l s1.c).l : Nat) : Int))) (
              needSome (Slc.sub s1 1 (Int.toNat k4) s1.l s1.c).p fun a94 =>
              0 ≤ i67 ∧ i67 < (((Slc.sub s1 1 (Int.toNat k4) s1.l s1.c).l : Nat) : Int) ∧
              ∃ n95 : Int, World.cell? (World.drew w68) (Addr.add a94 ((Int.toNat i67) * 1)) = some (Value.int .i64 n95) ∧
              inR .i64 (i67 - (1 : Int)) ∧
              needSome (Slc.sub s1 1 (Int.toNat k4) s1.l s1.c).p fun a96 =>
              0 ≤ (i67 - (1 : Int)) ∧ (i67 - (1 : Int)) < (((Slc.sub s1 1 (Int.toNat k4) s1.l s1.c).l : Nat) : Int) ∧
              ∃ n97 : Int, World.cell? (World.drew w68) (Addr.add a96 ((Int.toNat (i67 - (1 : Int))) * 1)) = some (Value.int .i64 n97) ∧
              BIf (!decide (n95 = n97)) (
                needSome (Slc.sub s1 1 (Int.toNat k4) s1.l s1.c).p fun a98 =>
                0 ≤ i67 ∧ i67 < (((Slc.sub s1 1 (Int.toNat k4) s1.l s1.c).l : Nat) : Int) ∧
                ∃ n99 : Int, World.cell? (World.drew w68) (Addr.add a98 ((Int.toNat i67) * 1)) = some (Value.int .i64 n99) ∧
                needSome s1.p fun a100 =>
                0 ≤ k66 ∧ k66 < ((s1.l : Nat) : Int) ∧
                canW (World.drew w68) (Addr.add a100 ((Int.toNat k66) * 1)) 1 ∧ ∀ w101 : World, w101 = World.setCell (World.drew w68) (Addr.add a100 ((Int.toNat k66) * 1)) (Value.int .i64 n99) →
                inR .i64 (k66 + (1 : Int)) ∧
                inR .i64 (i67 + (1 : Int)) ∧
                (I64 ((k66 + (1 : Int))) ((i67 + (1 : Int))) w101 ∧ mu65 ((k66 + (1 : Int))) ((i67 + (1 : Int))) w101 < mu65 k66 i67 w68)) (
                inR .i64 (i67 + (1 : Int)) ∧
                (I64 (k66) ((i67 + (1 : Int))) (World.drew w68) ∧ mu65 (k66) ((i67 + (1 : Int))) (World.drew w68) < mu65 k66 i67 w68))) (
              0 ≤ k66 ∧ k66 ≤ ((s1.l : Nat) : Int) ∧ ((s1.l : Nat) : Int) ≤ ((s1.c : Nat) : Int) ∧ ((s1.c : Nat) : Int) ≤ ((s1.c : Nat) : Int) ∧
              clearS [(Value.int .i64 (0 : Int))] w68 (Slc.sub s1 1 (Int.toNat k66) s1.l s1.c) fun w103 =>
              0 ≤ (0 : Int) ∧ (0 : Int) ≤ k66 ∧ k66 ≤ ((s1.c : Nat) : Int) ∧ ((s1.c : Nat) : Int) ≤ ((s1.c : Nat) : Int) ∧
              K (Slc.v (Slc.sub s1 1 0 (Int.toNat k66) s1.c)) w103))) (
          inR .i64 (k4 + (1 : Int)) ∧
          (I2 ((k4 + (1 : Int))) (World.drew w5) ∧ mu3 ((k4 + (1 : Int))) (World.drew w5) < mu3 k4 w5))) (
        K (Slc.v s1) w5)))

theorem slices_Compact_int_eq (s1 : Slc) (w : World) (K : Value → World → Prop) : slices_Compact_int s1 w K = denF Tryd.prog callB Tryd.f23 (.two .none (.two .none (.two (.two .none (.one (.loop [(3, (Sh.int .i64))] [2, 4, 5, 10, 11, 12, 13, 14, 15, 16, 17, 18, 19, 20, 21, 22, 23, 24, 25, 26, 27, 28, 29, 30, 31, 32, 33, 34, 35, 36, 37, 38, 39, 40, 41, 42, 43, 44, 45, 46, 47, 48, 49, 50, 51, 52, 53, 54, 55, 56, 57, 58, 59] (.two .none (.two (.one (.two .none (.two (.two .none (.two (.two .none (.one (.loop [(3, (Sh.int .i64)), (5, (Sh.int .i64))] [29, 30, 31, 32, 33, 34, 35, 36, 37, 38, 39, 40, 41, 42, 43, 44, 45, 46, 47, 48, 49, 50, 51, 52, 53] .none))) .none)) .none))) .none))))) .none))) [(Slc.v s1)] w K := by kernel_rfl
theorem slices_Compact_int_ok (s1 : Slc) {w : World} {R : Ending → World → Prop} (h : slices_Compact_int s1 w fun v w' => R (.returned v) w') : Calls Tryd.prog fn_slices_Compact_int ⟨[(Slc.v s1)]⟩ w R :=
  calls_of_den callB_ok mixed Tryd.func23 (slices_Compact_int_eq s1 w _ ▸ h)

/-- tidewater/plan.chainRight$1 -/
def plan_chainRight_1 (u1 : Int) (w : World) (K : Value → World → Prop) : Prop :=
  BIf (decide (u1 < (0 : Int))) (
    K (Value.bool true) w) (
    K (Value.bool (decide ((12 : Int) ≤ u1))) w)

theorem plan_chainRight_1_eq (u1 : Int) (w : World) (K : Value → World → Prop) : plan_chainRight_1 u1 w K = denF Tryd.prog callB Tryd.f41 .none [(Value.int .i64 u1)] w K := by kernel_rfl
theorem plan_chainRight_1_ok (u1 : Int) {w : World} {R : Ending → World → Prop} (h : plan_chainRight_1 u1 w fun v w' => R (.returned v) w') : Calls Tryd.prog fn_plan_chainRight_1 ⟨[(Value.int .i64 u1)]⟩ w R :=
  calls_of_den callB_ok mixed Tryd.func41 (plan_chainRight_1_eq u1 w _ ▸ h)

/-- slices.ContainsFunc[[]int,int] -/
def slices_ContainsFunc_int_plan_chainRight_1 (s1 : Slc) (w : World) (K : Value → World → Prop) : Prop :=
  Calls Tryd.prog fn_slices_IndexFunc_int ⟨[(Slc.v s1), (Value.func (.func 41) ⟨[]⟩ ⟨[]⟩)]⟩ w fun e2 w3 =>
  ∃ n4 : Int, e2 = .returned (Value.int .i64 n4) ∧
  K (Value.bool (decide ((0 : Int) ≤ n4))) w3

theorem slices_ContainsFunc_int_plan_chainRight_1_eq (s1 : Slc) (w : World) (K : Value → World → Prop) : slices_ContainsFunc_int_plan_chainRight_1 s1 w K = denF Tryd.prog callB Tryd.f40 .none [(Slc.v s1), (Value.func (.func 41) ⟨[]⟩ ⟨[]⟩)] w K := by kernel_rfl
theorem slices_ContainsFunc_int_plan_chainRight_1_ok (s1 : Slc) {w : World} {R : Ending → World → Prop} (h : slices_ContainsFunc_int_plan_chainRight_1 s1 w fun v w' => R (.returned v) w') : Calls Tryd.prog fn_slices_ContainsFunc_int ⟨[(Slc.v s1), (Value.func (.func 41) ⟨[]⟩ ⟨[]⟩)]⟩ w R :=
  calls_of_den callB_ok mixed Tryd.func40 (slices_ContainsFunc_int_plan_chainRight_1_eq s1 w _ ▸ h)

/-- slices.IndexFunc[[]int,int] -/
def slices_IndexFunc_int_plan_chainRight_1 (s1 : Slc) (w : World) (K : Value → World → Prop) : Prop :=
  ∃ (I2 : (Int) → World → Prop) (mu3 : (Int) → World → Nat), I2 ((0 : Int)) w ∧ (
  ∀ i4 : Int, ∀ w5 : World, I2 i4 w5 → ∀ u6 u7 u8 u9 u10 u11 u12 u13 u14 u15 u16 u17 : Value,
    BIf (decide (i4 < ((s1.l : Nat) : Int))) (
      needSome s1.p fun a18 =>
      0 ≤ i4 ∧ i4 < ((s1.l : Nat) : Int) ∧
      ∃ n19 : Int, World.cell? w5 (Addr.add a18 ((Int.toNat i4) * 1)) = some (Value.int .i64 n19) ∧
      Calls Tryd.prog fn_plan_chainRight_1 ⟨[(Value.int .i64 n19)]⟩ w5 fun e20 w21 =>
      ∃ b22 : Bool, e20 = .returned (Value.bool b22) ∧
      BIf b22 (
        K (Value.int .i64 i4) w21) (
        inR .i64 (i4 + (1 : Int)) ∧
        (I2 ((i4 + (1 : Int))) w21 ∧ mu3 ((i4 + (1 : Int))) w21 < mu3 i4 w5))) (
      K (Value.int .i64 (-1 : Int)) w5))

theorem slices_IndexFunc_int_plan_chainRight_1_eq (s1 : Slc) (w : World) (K : Value → World → Prop) : slices_IndexFunc_int_plan_chainRight_1 s1 w K = denF Tryd.prog callB Tryd.f57 (.two .none (.two (.two .none (.one (.loop [(8, (Sh.int .i64))] [4, 5, 9, 10, 11, 12, 13, 14, 15, 16, 17, 18] .none))) .none)) [(Slc.v s1), (Value.func (.func 41) ⟨[]⟩ ⟨[]⟩)] w K := by kernel_rfl
theorem slices_IndexFunc_int_plan_chainRight_1_ok (s1 : Slc) {w : World} {R : Ending → World → Prop} (h : slices_IndexFunc_int_plan_chainRight_1 s1 w fun v w' => R (.returned v) w') : Calls Tryd.prog fn_slices_IndexFunc_int ⟨[(Slc.v s1), (Value.func (.func 41) ⟨[]⟩ ⟨[]⟩)]⟩ w R :=
  calls_of_den callB_ok mixed Tryd.func57 (slices_IndexFunc_int_plan_chainRight_1_eq s1 w _ ▸ h)

/-- tidewater/plan.chainRight -/
def plan_chainRight (c1 : Slc) (w : World) (K : Value → World → Prop) : Prop :=
  BIf (decide ((1 : Int) ≤ ((c1.l : Nat) : Int))) (
    BIf (decide (((c1.l : Nat) : Int) ≤ (3 : Int))) (
      Calls Tryd.prog fn_slices_ContainsFunc_int ⟨[(Slc.v c1), (Value.func (.func 41) ⟨[]⟩ ⟨[]⟩)]⟩ w fun e2 w3 =>
      ∃ b4 : Bool, e2 = .returned (Value.bool b4) ∧
      K (Value.bool (!b4)) w3) (
      K (Value.bool false) w)) (
    K (Value.bool false) w)

theorem plan_chainRight_eq (c1 : Slc) (w : World) (K : Value → World → Prop) : plan_chainRight c1 w K = denF Tryd.prog callB Tryd.f21 .none [(Slc.v c1)] w K := by kernel_rfl
theorem plan_chainRight_ok (c1 : Slc) {w : World} {R : Ending → World → Prop} (h : plan_chainRight c1 w fun v w' => R (.returned v) w') : Calls Tryd.prog fn_plan_chainRight ⟨[(Slc.v c1)]⟩ w R :=
  calls_of_den callB_ok mixed Tryd.func21 (plan_chainRight_eq c1 w _ ▸ h)

/-- tidewater/plan.Right$1 -/
def plan_Right_1 (c1 : Slc) (w : World) (K : Value → World → Prop) : Prop :=
  Calls Tryd.prog fn_plan_chainRight ⟨[(Slc.v c1)]⟩ w fun e2 w3 =>
  ∃ b4 : Bool, e2 = .returned (Value.bool b4) ∧
  K (Value.bool (!b4)) w3

theorem plan_Right_1_eq (c1 : Slc) (w : World) (K : Value → World → Prop) : plan_Right_1 c1 w K = denF Tryd.prog callB Tryd.f20 .none [(Slc.v c1)] w K := by kernel_rfl
theorem plan_Right_1_ok (c1 : Slc) {w : World} {R : Ending → World → Prop} (h : plan_Right_1 c1 w fun v w' => R (.returned v) w') : Calls Tryd.prog fn_plan_Right_1 ⟨[(Slc.v c1)]⟩ w R :=
  calls_of_den callB_ok mixed Tryd.func20 (plan_Right_1_eq c1 w _ ▸ h)

/-- slices.ContainsFunc[[][]int,[]int] -/
def slices_ContainsFunc_Sint_plan_Right_1 (s1 : Slc) (w : World) (K : Value → World → Prop) : Prop :=
  Calls Tryd.prog fn_slices_IndexFunc_Sint ⟨[(Slc.v s1), (Value.func (.func 20) ⟨[]⟩ ⟨[]⟩)]⟩ w fun e2 w3 =>
  ∃ n4 : Int, e2 = .returned (Value.int .i64 n4) ∧
  K (Value.bool (decide ((0 : Int) ≤ n4))) w3

theorem slices_ContainsFunc_Sint_plan_Right_1_eq (s1 : Slc) (w : World) (K : Value → World → Prop) : slices_ContainsFunc_Sint_plan_Right_1 s1 w K = denF Tryd.prog callB Tryd.f19 .none [(Slc.v s1), (Value.func (.func 20) ⟨[]⟩ ⟨[]⟩)] w K := by kernel_rfl
theorem slices_ContainsFunc_Sint_plan_Right_1_ok (s1 : Slc) {w : World} {R : Ending → World → Prop} (h : slices_ContainsFunc_Sint_plan_Right_1 s1 w fun v w' => R (.returned v) w') : Calls Tryd.prog fn_slices_ContainsFunc_Sint ⟨[(Slc.v s1), (Value.func (.func 20) ⟨[]⟩ ⟨[]⟩)]⟩ w R :=
  calls_of_den callB_ok mixed Tryd.func19 (slices_ContainsFunc_Sint_plan_Right_1_eq s1 w _ ▸ h)

/-- slices.IndexFunc[[][]int,[]int] -/
def slices_IndexFunc_Sint_plan_Right_1 (s1 : Slc) (w : World) (K : Value → World → Prop) : Prop :=
  ∃ (I2 : (Int) → World → Prop) (mu3 : (Int) → World → Nat), I2 ((0 : Int)) w ∧ (
  ∀ i4 : Int, ∀ w5 : World, I2 i4 w5 → ∀ u6 u7 u8 u9 u10 u11 u12 u13 u14 u15 u16 u17 : Value,
    BIf (decide (i4 < ((s1.l : Nat) : Int))) (
      needSome s1.p fun a18 =>
      0 ≤ i4 ∧ i4 < ((s1.l : Nat) : Int) ∧
      ∃ s19 : Slc, World.cell? w5 (Addr.add a18 ((Int.toNat i4) * 1)) = some (Slc.v s19) ∧
      Calls Tryd.prog fn_plan_Right_1 ⟨[(Slc.v s19)]⟩ w5 fun e20 w21 =>
      ∃ b22 : Bool, e20 = .returned (Value.bool b22) ∧
      BIf b22 (
        K (Value.int .i64 i4) w21) (
        inR .i64 (i4 + (1 : Int)) ∧
        (I2 ((i4 + (1 : Int))) w21 ∧ mu3 ((i4 + (1 : Int))) w21 < mu3 i4 w5))) (
      K (Value.int .i64 (-1 : Int)) w5))

theorem slices_IndexFunc_Sint_plan_Right_1_eq (s1 : Slc) (w : World) (K : Value → World → Prop) : slices_IndexFunc_Sint_plan_Right_1 s1 w K = denF Tryd.prog callB Tryd.f39 (.two .none (.two (.two .none (.one (.loop [(8, (Sh.int .i64))] [4, 5, 9, 10, 11, 12, 13, 14, 15, 16, 17, 18] .none))) .none)) [(Slc.v s1), (Value.func (.func 20) ⟨[]⟩ ⟨[]⟩)] w K := by kernel_rfl
theorem slices_IndexFunc_Sint_plan_Right_1_ok (s1 : Slc) {w : World} {R : Ending → World → Prop} (h : slices_IndexFunc_Sint_plan_Right_1 s1 w fun v w' => R (.returned v) w') : Calls Tryd.prog fn_slices_IndexFunc_Sint ⟨[(Slc.v s1), (Value.func (.func 20) ⟨[]⟩ ⟨[]⟩)]⟩ w R :=
  calls_of_den callB_ok mixed Tryd.func39 (slices_IndexFunc_Sint_plan_Right_1_eq s1 w _ ▸ h)

/-- tidewater/plan.Right -/
def plan_Right (p1 : Int) (p2 : Slc) (w : World) (K : Value → World → Prop) : Prop :=
  newS w (.cells ⟨[(Value.int .i64 p1), (Slc.v p2)]⟩ 27) fun r3 w4 =>
  ∃ J5 : World → Prop,
  (
    ∃ n6 : Int, World.cell? w4 (⟨r3, 0, none⟩ : Addr) = some (Value.int .i64 n6) ∧
    BIf (decide (n6 < (0 : Int))) (
      K (Value.bool false) w4) (
      ∃ n7 : Int, World.cell? w4 (⟨r3, 0, none⟩ : Addr) = some (Value.int .i64 n7) ∧
      BIf (decide ((1073741824 : Int) < n7)) (
        K (Value.bool false) w4) (
        ∃ s8 : Slc, World.cell? w4 (⟨r3, 1, none⟩ : Addr) = some (Slc.v s8) ∧
        BIf (decide (((s8.l : Nat) : Int) < (1 : Int))) (
          K (Value.bool false) w4) (
          ∃ s9 : Slc, World.cell? w4 (⟨r3, 1, none⟩ : Addr) = some (Slc.v s9) ∧
          BIf (decide ((3 : Int) < ((s9.l : Nat) : Int))) (
            K (Value.bool false) w4) (
            J5 w4))))) ∧ (
  ∀ w10 : World, J5 w10 → ∀ u11 u12 u13 u14 u15 u16 u17 u18 u19 u20 u21 u22 u23 u24 u25 u26 u27 u28 u29 u30 u31 : Value,
    ∃ s32 : Slc, World.cell? w10 (⟨r3, 1, none⟩ : Addr) = some (Slc.v s32) ∧
    Calls Tryd.prog fn_slices_ContainsFunc_Sint ⟨[(Slc.v s32), (Value.func (.func 20) ⟨[]⟩ ⟨[]⟩)]⟩ w10 fun e33 w34 =>
    ∃ b35 : Bool, e33 = .returned (Value.bool b35) ∧
    BIf b35 (
      K (Value.bool false) w34) (
      ∃ n36 : Int, ∃ s37 : Slc, rowAt w34 (⟨r3, 0, none⟩ : Addr) 0 [(Value.int .i64 n36), (Slc.v s37)] ∧
      Calls Tryd.prog fn_plan_all ⟨[(Value.agg ⟨[(Value.int .i64 n36), (Slc.v s37)]⟩)]⟩ w34 fun e38 w39 =>
      ∃ s40 : Slc, e38 = .returned (Slc.v s40) ∧
      Calls Tryd.prog fn_slices_Clone_int ⟨[(Slc.v s40)]⟩ w39 fun e41 w42 =>
      ∃ s43 : Slc, e41 = .returned (Slc.v s43) ∧
      Calls Tryd.prog fn_slices_Compact_int ⟨[(Slc.v s43)]⟩ w42 fun e44 w45 =>
      ∃ s46 : Slc, e44 = .returned (Slc.v s46) ∧
      K (Value.bool (decide (((s46.l : Nat) : Int) = ((s40.l : Nat) : Int)))) w45))

theorem plan_Right_eq (p1 : Int) (p2 : Slc) (w : World) (K : Value → World → Prop) : plan_Right p1 p2 w K = denF Tryd.prog callB Tryd.f6 (.two .none (.cut [] [2, 4, 5, 6, 7, 8, 9, 10, 11, 12, 13, 14, 15, 16, 17, 18, 19, 20, 21, 22, 23] .none .none)) [(Value.agg ⟨[(Value.int .i64 p1), (Slc.v p2)]⟩)] w K := by kernel_rfl
theorem plan_Right_ok (p1 : Int) (p2 : Slc) {w : World} {R : Ending → World → Prop} (h : plan_Right p1 p2 w fun v w' => R (.returned v) w') : Calls Tryd.prog fn_plan_Right ⟨[(Value.agg ⟨[(Value.int .i64 p1), (Slc.v p2)]⟩)]⟩ w R :=
  calls_of_den callB_ok mixed Tryd.func6 (plan_Right_eq p1 p2 w _ ▸ h)

/-- tidewater/plan.Copy -/
def plan_Copy (p1 : Int) (p2 : Slc) (w : World) (K : Value → World → Prop) : Prop :=
  newS w (.cells ⟨[(Value.int .i64 p1), (Slc.v p2)]⟩ 27) fun r3 w4 =>
  newS w4 (.cells ⟨[(Value.int .i64 (0 : Int)), (Slc.v (⟨none, 0, 0⟩ : Slc))]⟩ 27) fun r5 w6 =>
  ∃ n7 : Int, World.cell? w6 (⟨r3, 0, none⟩ : Addr) = some (Value.int .i64 n7) ∧
  newS w6 (.cells ⟨[(Value.int .i64 (0 : Int)), (Slc.v (⟨none, 0, 0⟩ : Slc))]⟩ 27) fun r8 w9 =>
  canW w9 (⟨r8, 0, none⟩ : Addr) 2 ∧ ∀ w10 : World, w10 = setCells w9 (⟨r8, 0, none⟩ : Addr) 0 [(Value.int .i64 n7), (Slc.v (⟨none, 0, 0⟩ : Slc))] →
  ∃ s11 : Slc, World.cell? w10 (⟨r3, 1, none⟩ : Addr) = some (Slc.v s11) ∧
  ∃ (I12 : (Int) → World → Prop) (mu13 : (Int) → World → Nat), I12 ((0 : Int)) w10 ∧ (
  ∀ i14 : Int, ∀ w15 : World, I12 i14 w15 → ∀ u16 u17 u18 u19 u20 u21 u22 u23 u24 u25 u26 u27 : Value,
    BIf (decide (i14 < ((s11.l : Nat) : Int))) (
      needSome s11.p fun a28 =>
      0 ≤ i14 ∧ i14 < ((s11.l : Nat) : Int) ∧
      ∃ s29 : Slc, World.cell? w15 (Addr.add a28 ((Int.toNat i14) * 1)) = some (Slc.v s29) ∧
      ∃ s30 : Slc, World.cell? (World.drew w15) (⟨r8, 1, none⟩ : Addr) = some (Slc.v s30) ∧
      Calls Tryd.prog fn_slices_Clone_int ⟨[(Slc.v s29)]⟩ (World.drew w15) fun e31 w32 =>
      ∃ s33 : Slc, e31 = .returned (Slc.v s33) ∧
      (∃ s34 : Slc, World.cell? w32 (⟨r8, 1, none⟩ : Addr) = some (Slc.v s34) ∧
      (Slc.v s34) = (Slc.v s30)) ∧
      newS w32 (.cells ⟨[(Slc.v s33)]⟩ 22) fun r35 w36 =>
      (∃ s37 : Slc, World.cell? w36 (⟨r8, 1, none⟩ : Addr) = some (Slc.v s37) ∧
      (Slc.v s37) = (Slc.v s30)) ∧
      appendS 1 22 [(Slc.v (⟨none, 0, 0⟩ : Slc))] w36 s30 (.slc (⟨(some (⟨r35, 0, none⟩ : Addr)), 1, 1⟩ : Slc)) fun s38 w39 =>
      canW w39 (⟨r8, 1, none⟩ : Addr) 1 ∧ ∀ w40 : World, w40 = World.setCell w39 (⟨r8, 1, none⟩ : Addr) (Slc.v s38) →
      inR .i64 (i14 + (1 : Int)) ∧
      (I12 ((i14 + (1 : Int))) w40 ∧ mu13 ((i14 + (1 : Int))) w40 < mu13 i14 w15)) (
      ∃ n41 : Int, ∃ s42 : Slc, rowAt w15 (⟨r8, 0, none⟩ : Addr) 0 [(Value.int .i64 n41), (Slc.v s42)] ∧
      canW w15 (⟨r5, 0, none⟩ : Addr) 2 ∧ ∀ w43 : World, w43 = setCells w15 (⟨r5, 0, none⟩ : Addr) 0 [(Value.int .i64 n41), (Slc.v s42)] →
      ∃ n44 : Int, ∃ s45 : Slc, rowAt w43 (⟨r5, 0, none⟩ : Addr) 0 [(Value.int .i64 n44), (Slc.v s45)] ∧
      K (Value.agg ⟨[(Value.int .i64 n44), (Slc.v s45)]⟩) w43))

theorem plan_Copy_eq (p1 : Int) (p2 : Slc) (w : World) (K : Value → World → Prop) : plan_Copy p1 p2 w K = denF Tryd.prog callB Tryd.f15 (.two .none (.two .none (.two (.two .none (.one (.loop [(12, (Sh.int .i64))] [5, 13, 14, 15, 16, 17, 18, 19, 20, 21, 22, 23] .none))) .none))) [(Value.agg ⟨[(Value.int .i64 p1), (Slc.v p2)]⟩)] w K := by kernel_rfl
theorem plan_Copy_ok (p1 : Int) (p2 : Slc) {w : World} {R : Ending → World → Prop} (h : plan_Copy p1 p2 w fun v w' => R (.returned v) w') : Calls Tryd.prog fn_plan_Copy ⟨[(Value.agg ⟨[(Value.int .i64 p1), (Slc.v p2)]⟩)]⟩ w R :=
  calls_of_den callB_ok mixed Tryd.func15 (plan_Copy_eq p1 p2 w _ ▸ h)

end Go.D
