/-
  WHAT IS PROVED: verification conditions of functions of this program, each with its soundness. No further conditions.
-/
import Derived.Test.YtagajpoppiklnaaDoorBase
set_option linter.unusedSimpArgs false
set_option maxRecDepth 100000
set_option linter.unusedVariables false
namespace Go.D
open Go Go.Proofs
/-- tidewater/entry.clean -/
def entry_clean (o1 : Int) (o2 : List UInt8) (o3 : List UInt8) (o4 : List UInt8) (o5 : Int) (w : World) (K : Value → World → Prop) : Prop :=
  newS w (.cells ⟨[(Value.int .i64 o1), (strV o2), (strV o3), (strV o4), (Value.int .i64 o5)]⟩ 50) fun r6 w7 =>
  newS w7 (.cells ⟨[(Value.int .i64 (0 : Int)), (strV ([] : List UInt8)), (strV ([] : List UInt8)), (strV ([] : List UInt8)), (Value.int .i64 (0 : Int))]⟩ 50) fun r8 w9 =>
  ∃ n10 : Int, World.cell? w9 (⟨r6, 0, none⟩ : Addr) = some (Value.int .i64 n10) ∧
  ∃ t11 : List UInt8, World.cell? w9 (⟨r6, 1, none⟩ : Addr) = some (strV t11) ∧
  newS w9 (.cells ⟨[(Value.int .i64 (0 : Int)), (strV ([] : List UInt8)), (strV ([] : List UInt8)), (strV ([] : List UInt8)), (Value.int .i64 (0 : Int))]⟩ 50) fun r12 w13 =>
  canW w13 (⟨r12, 0, none⟩ : Addr) 5 ∧ ∀ w14 : World, w14 = setCells w13 (⟨r12, 0, none⟩ : Addr) 0 [(Value.int .i64 n10), (strV t11), (strV ([] : List UInt8)), (strV ([] : List UInt8)), (Value.int .i64 (0 : Int))] →
  ∃ n15 : Int, World.cell? w14 (⟨r6, 0, none⟩ : Addr) = some (Value.int .i64 n15) ∧
  BIf (decide (n15 = (1 : Int))) (
    ∃ t16 : List UInt8, World.cell? w14 (⟨r6, 2, none⟩ : Addr) = some (strV t16) ∧
    canW w14 (⟨r12, 2, none⟩ : Addr) 1 ∧ ∀ w17 : World, w17 = World.setCell w14 (⟨r12, 2, none⟩ : Addr) (strV t16) →
    ∃ n18 : Int, ∃ t19 : List UInt8, ∃ t20 : List UInt8, ∃ t21 : List UInt8, ∃ n22 : Int, rowAt w17 (⟨r12, 0, none⟩ : Addr) 0 [(Value.int .i64 n18), (strV t19), (strV t20), (strV t21), (Value.int .i64 n22)] ∧
    canW w17 (⟨r8, 0, none⟩ : Addr) 5 ∧ ∀ w23 : World, w23 = setCells w17 (⟨r8, 0, none⟩ : Addr) 0 [(Value.int .i64 n18), (strV t19), (strV t20), (strV t21), (Value.int .i64 n22)] →
    ∃ n24 : Int, ∃ t25 : List UInt8, ∃ t26 : List UInt8, ∃ t27 : List UInt8, ∃ n28 : Int, rowAt w23 (⟨r8, 0, none⟩ : Addr) 0 [(Value.int .i64 n24), (strV t25), (strV t26), (strV t27), (Value.int .i64 n28)] ∧
    K (Value.agg ⟨[(Value.int .i64 n24), (strV t25), (strV t26), (strV t27), (Value.int .i64 n28)]⟩) w23) (
    BIf (decide (n15 = (3 : Int))) (
      ∃ t29 : List UInt8, World.cell? (World.drew w14) (⟨r6, 3, none⟩ : Addr) = some (strV t29) ∧
      ∃ t30 : List UInt8, World.cell? (World.drew w14) (⟨r6, 2, none⟩ : Addr) = some (strV t30) ∧
      canW (World.drew w14) (⟨r12, 3, none⟩ : Addr) 1 ∧ ∀ w31 : World, w31 = World.setCell (World.drew w14) (⟨r12, 3, none⟩ : Addr) (strV t29) →
      (∃ t32 : List UInt8, World.cell? w31 (⟨r6, 2, none⟩ : Addr) = some (strV t32) ∧
      (strV t32) = (strV t30)) ∧
      canW w31 (⟨r12, 2, none⟩ : Addr) 1 ∧ ∀ w33 : World, w33 = World.setCell w31 (⟨r12, 2, none⟩ : Addr) (strV t30) →
      ∃ n34 : Int, ∃ t35 : List UInt8, ∃ t36 : List UInt8, ∃ t37 : List UInt8, ∃ n38 : Int, rowAt w33 (⟨r12, 0, none⟩ : Addr) 0 [(Value.int .i64 n34), (strV t35), (strV t36), (strV t37), (Value.int .i64 n38)] ∧
      canW w33 (⟨r8, 0, none⟩ : Addr) 5 ∧ ∀ w39 : World, w39 = setCells w33 (⟨r8, 0, none⟩ : Addr) 0 [(Value.int .i64 n34), (strV t35), (strV t36), (strV t37), (Value.int .i64 n38)] →
      ∃ n40 : Int, ∃ t41 : List UInt8, ∃ t42 : List UInt8, ∃ t43 : List UInt8, ∃ n44 : Int, rowAt w39 (⟨r8, 0, none⟩ : Addr) 0 [(Value.int .i64 n40), (strV t41), (strV t42), (strV t43), (Value.int .i64 n44)] ∧
      K (Value.agg ⟨[(Value.int .i64 n40), (strV t41), (strV t42), (strV t43), (Value.int .i64 n44)]⟩) w39) (
      BIf (decide (n15 = (4 : Int))) (
        ∃ n45 : Int, World.cell? w14 (⟨r6, 4, none⟩ : Addr) = some (Value.int .i64 n45) ∧
        canW w14 (⟨r12, 4, none⟩ : Addr) 1 ∧ ∀ w46 : World, w46 = World.setCell w14 (⟨r12, 4, none⟩ : Addr) (Value.int .i64 n45) →
        ∃ n47 : Int, ∃ t48 : List UInt8, ∃ t49 : List UInt8, ∃ t50 : List UInt8, ∃ n51 : Int, rowAt w46 (⟨r12, 0, none⟩ : Addr) 0 [(Value.int .i64 n47), (strV t48), (strV t49), (strV t50), (Value.int .i64 n51)] ∧
        canW w46 (⟨r8, 0, none⟩ : Addr) 5 ∧ ∀ w52 : World, w52 = setCells w46 (⟨r8, 0, none⟩ : Addr) 0 [(Value.int .i64 n47), (strV t48), (strV t49), (strV t50), (Value.int .i64 n51)] →
        ∃ n53 : Int, ∃ t54 : List UInt8, ∃ t55 : List UInt8, ∃ t56 : List UInt8, ∃ n57 : Int, rowAt w52 (⟨r8, 0, none⟩ : Addr) 0 [(Value.int .i64 n53), (strV t54), (strV t55), (strV t56), (Value.int .i64 n57)] ∧
        K (Value.agg ⟨[(Value.int .i64 n53), (strV t54), (strV t55), (strV t56), (Value.int .i64 n57)]⟩) w52) (
        ∃ n58 : Int, ∃ t59 : List UInt8, ∃ t60 : List UInt8, ∃ t61 : List UInt8, ∃ n62 : Int, rowAt w14 (⟨r12, 0, none⟩ : Addr) 0 [(Value.int .i64 n58), (strV t59), (strV t60), (strV t61), (Value.int .i64 n62)] ∧
        canW w14 (⟨r8, 0, none⟩ : Addr) 5 ∧ ∀ w63 : World, w63 = setCells w14 (⟨r8, 0, none⟩ : Addr) 0 [(Value.int .i64 n58), (strV t59), (strV t60), (strV t61), (Value.int .i64 n62)] →
        ∃ n64 : Int, ∃ t65 : List UInt8, ∃ t66 : List UInt8, ∃ t67 : List UInt8, ∃ n68 : Int, rowAt w63 (⟨r8, 0, none⟩ : Addr) 0 [(Value.int .i64 n64), (strV t65), (strV t66), (strV t67), (Value.int .i64 n68)] ∧
        K (Value.agg ⟨[(Value.int .i64 n64), (strV t65), (strV t66), (strV t67), (Value.int .i64 n68)]⟩) w63)))

theorem entry_clean_eq (o1 : Int) (o2 : List UInt8) (o3 : List UInt8) (o4 : List UInt8) (o5 : Int) (w : World) (K : Value → World → Prop) : entry_clean o1 o2 o3 o4 o5 w K = denF Tryd.prog callB Tryd.f55 .none [(Value.agg ⟨[(Value.int .i64 o1), (strV o2), (strV o3), (strV o4), (Value.int .i64 o5)]⟩)] w K := by kernel_rfl
theorem entry_clean_ok (o1 : Int) (o2 : List UInt8) (o3 : List UInt8) (o4 : List UInt8) (o5 : Int) {w : World} {R : Ending → World → Prop} (h : entry_clean o1 o2 o3 o4 o5 w fun v w' => R (.returned v) w') : Calls Tryd.prog fn_entry_clean ⟨[(Value.agg ⟨[(Value.int .i64 o1), (strV o2), (strV o3), (strV o4), (Value.int .i64 o5)]⟩)]⟩ w R :=
  calls_of_den callB_ok mixed Tryd.func55 (entry_clean_eq o1 o2 o3 o4 o5 w _ ▸ h)

/-- tidewater/entry.readOp -/
def entry_readOp (i1 : Option Addr) (w : World) (K : Value → World → Prop) : Prop :=
  newS w (.cells ⟨[(Value.int .i64 (0 : Int)), (strV ([] : List UInt8)), (strV ([] : List UInt8)), (strV ([] : List UInt8)), (Value.int .i64 (0 : Int))]⟩ 50) fun r2 w3 =>
  Calls Tryd.prog fn_pack_In_Num ⟨[(Value.pointer i1), (Value.int .i64 (4 : Int))]⟩ w3 fun e4 w5 =>
  ∃ n6 : Int, e4 = .returned (Value.int .i64 n6) ∧
  Calls Tryd.prog fn_pack_In_Text ⟨[(Value.pointer i1), (Value.int .i64 (2048 : Int))]⟩ w5 fun e7 w8 =>
  ∃ t9 : List UInt8, e7 = .returned (strV t9) ∧
  newS w8 (.cells ⟨[(Value.int .i64 (0 : Int)), (strV ([] : List UInt8)), (strV ([] : List UInt8)), (strV ([] : List UInt8)), (Value.int .i64 (0 : Int))]⟩ 50) fun r10 w11 =>
  canW w11 (⟨r10, 0, none⟩ : Addr) 5 ∧ ∀ w12 : World, w12 = setCells w11 (⟨r10, 0, none⟩ : Addr) 0 [(Value.int .i64 n6), (strV t9), (strV ([] : List UInt8)), (strV ([] : List UInt8)), (Value.int .i64 (0 : Int))] →
  ∃ n13 : Int, World.cell? w12 (⟨r10, 0, none⟩ : Addr) = some (Value.int .i64 n13) ∧
  BIf (decide (n13 = (1 : Int))) (
    Calls Tryd.prog fn_pack_In_Text ⟨[(Value.pointer i1), (Value.int .i64 (2048 : Int))]⟩ w12 fun e14 w15 =>
    ∃ t16 : List UInt8, e14 = .returned (strV t16) ∧
    canW w15 (⟨r10, 2, none⟩ : Addr) 1 ∧ ∀ w17 : World, w17 = World.setCell w15 (⟨r10, 2, none⟩ : Addr) (strV t16) →
    ∃ n18 : Int, ∃ t19 : List UInt8, ∃ t20 : List UInt8, ∃ t21 : List UInt8, ∃ n22 : Int, rowAt w17 (⟨r10, 0, none⟩ : Addr) 0 [(Value.int .i64 n18), (strV t19), (strV t20), (strV t21), (Value.int .i64 n22)] ∧
    canW w17 (⟨r2, 0, none⟩ : Addr) 5 ∧ ∀ w23 : World, w23 = setCells w17 (⟨r2, 0, none⟩ : Addr) 0 [(Value.int .i64 n18), (strV t19), (strV t20), (strV t21), (Value.int .i64 n22)] →
    ∃ n24 : Int, ∃ t25 : List UInt8, ∃ t26 : List UInt8, ∃ t27 : List UInt8, ∃ n28 : Int, rowAt w23 (⟨r2, 0, none⟩ : Addr) 0 [(Value.int .i64 n24), (strV t25), (strV t26), (strV t27), (Value.int .i64 n28)] ∧
    K (Value.agg ⟨[(Value.int .i64 n24), (strV t25), (strV t26), (strV t27), (Value.int .i64 n28)]⟩) w23) (
    BIf (decide (n13 = (3 : Int))) (
      Calls Tryd.prog fn_pack_In_Text ⟨[(Value.pointer i1), (Value.int .i64 (2048 : Int))]⟩ w12 fun e29 w30 =>
      ∃ t31 : List UInt8, e29 = .returned (strV t31) ∧
      canW w30 (⟨r10, 3, none⟩ : Addr) 1 ∧ ∀ w32 : World, w32 = World.setCell w30 (⟨r10, 3, none⟩ : Addr) (strV t31) →
      Calls Tryd.prog fn_pack_In_Text ⟨[(Value.pointer i1), (Value.int .i64 (2048 : Int))]⟩ w32 fun e33 w34 =>
      ∃ t35 : List UInt8, e33 = .returned (strV t35) ∧
      canW w34 (⟨r10, 2, none⟩ : Addr) 1 ∧ ∀ w36 : World, w36 = World.setCell w34 (⟨r10, 2, none⟩ : Addr) (strV t35) →
      ∃ n37 : Int, ∃ t38 : List UInt8, ∃ t39 : List UInt8, ∃ t40 : List UInt8, ∃ n41 : Int, rowAt w36 (⟨r10, 0, none⟩ : Addr) 0 [(Value.int .i64 n37), (strV t38), (strV t39), (strV t40), (Value.int .i64 n41)] ∧
      canW w36 (⟨r2, 0, none⟩ : Addr) 5 ∧ ∀ w42 : World, w42 = setCells w36 (⟨r2, 0, none⟩ : Addr) 0 [(Value.int .i64 n37), (strV t38), (strV t39), (strV t40), (Value.int .i64 n41)] →
      ∃ n43 : Int, ∃ t44 : List UInt8, ∃ t45 : List UInt8, ∃ t46 : List UInt8, ∃ n47 : Int, rowAt w42 (⟨r2, 0, none⟩ : Addr) 0 [(Value.int .i64 n43), (strV t44), (strV t45), (strV t46), (Value.int .i64 n47)] ∧
      K (Value.agg ⟨[(Value.int .i64 n43), (strV t44), (strV t45), (strV t46), (Value.int .i64 n47)]⟩) w42) (
      BIf (decide (n13 = (4 : Int))) (
        Calls Tryd.prog fn_pack_In_Num ⟨[(Value.pointer i1), (Value.int .i64 (4096 : Int))]⟩ w12 fun e48 w49 =>
        ∃ n50 : Int, e48 = .returned (Value.int .i64 n50) ∧
        canW w49 (⟨r10, 4, none⟩ : Addr) 1 ∧ ∀ w51 : World, w51 = World.setCell w49 (⟨r10, 4, none⟩ : Addr) (Value.int .i64 n50) →
        ∃ n52 : Int, ∃ t53 : List UInt8, ∃ t54 : List UInt8, ∃ t55 : List UInt8, ∃ n56 : Int, rowAt w51 (⟨r10, 0, none⟩ : Addr) 0 [(Value.int .i64 n52), (strV t53), (strV t54), (strV t55), (Value.int .i64 n56)] ∧
        canW w51 (⟨r2, 0, none⟩ : Addr) 5 ∧ ∀ w57 : World, w57 = setCells w51 (⟨r2, 0, none⟩ : Addr) 0 [(Value.int .i64 n52), (strV t53), (strV t54), (strV t55), (Value.int .i64 n56)] →
        ∃ n58 : Int, ∃ t59 : List UInt8, ∃ t60 : List UInt8, ∃ t61 : List UInt8, ∃ n62 : Int, rowAt w57 (⟨r2, 0, none⟩ : Addr) 0 [(Value.int .i64 n58), (strV t59), (strV t60), (strV t61), (Value.int .i64 n62)] ∧
        K (Value.agg ⟨[(Value.int .i64 n58), (strV t59), (strV t60), (strV t61), (Value.int .i64 n62)]⟩) w57) (
        ∃ n63 : Int, ∃ t64 : List UInt8, ∃ t65 : List UInt8, ∃ t66 : List UInt8, ∃ n67 : Int, rowAt w12 (⟨r10, 0, none⟩ : Addr) 0 [(Value.int .i64 n63), (strV t64), (strV t65), (strV t66), (Value.int .i64 n67)] ∧
        canW w12 (⟨r2, 0, none⟩ : Addr) 5 ∧ ∀ w68 : World, w68 = setCells w12 (⟨r2, 0, none⟩ : Addr) 0 [(Value.int .i64 n63), (strV t64), (strV t65), (strV t66), (Value.int .i64 n67)] →
        ∃ n69 : Int, ∃ t70 : List UInt8, ∃ t71 : List UInt8, ∃ t72 : List UInt8, ∃ n73 : Int, rowAt w68 (⟨r2, 0, none⟩ : Addr) 0 [(Value.int .i64 n69), (strV t70), (strV t71), (strV t72), (Value.int .i64 n73)] ∧
        K (Value.agg ⟨[(Value.int .i64 n69), (strV t70), (strV t71), (strV t72), (Value.int .i64 n73)]⟩) w68)))

theorem entry_readOp_eq (i1 : Option Addr) (w : World) (K : Value → World → Prop) : entry_readOp i1 w K = denF Tryd.prog callB Tryd.f54 .none [(Value.pointer i1)] w K := by kernel_rfl
theorem entry_readOp_ok (i1 : Option Addr) {w : World} {R : Ending → World → Prop} (h : entry_readOp i1 w fun v w' => R (.returned v) w') : Calls Tryd.prog fn_entry_readOp ⟨[(Value.pointer i1)]⟩ w R :=
  calls_of_den callB_ok mixed Tryd.func54 (entry_readOp_eq i1 w _ ▸ h)

/-- tidewater/entry.readWriting -/
def entry_readWriting (i1 : Option Addr) (w : World) (K : Value → World → Prop) : Prop :=
  Calls Tryd.prog fn_pack_In_Num ⟨[(Value.pointer i1), (Value.int .i64 (12 : Int))]⟩ w fun e2 w3 =>
  ∃ n4 : Int, e2 = .returned (Value.int .i64 n4) ∧
  Calls Tryd.prog fn_pack_In_Num ⟨[(Value.pointer i1), (Value.int .i64 (4 : Int))]⟩ w3 fun e5 w6 =>
  ∃ n7 : Int, e5 = .returned (Value.int .i64 n7) ∧
  Calls Tryd.prog fn_pack_In_Num ⟨[(Value.pointer i1), (Value.int .i64 (1073741824 : Int))]⟩ w6 fun e8 w9 =>
  ∃ n10 : Int, e8 = .returned (Value.int .i64 n10) ∧
  newS w9 (.cells ⟨[(Value.int .i64 (0 : Int)), (Value.int .i64 (0 : Int)), (Value.int .i64 (0 : Int)), (Slc.v (⟨none, 0, 0⟩ : Slc))]⟩ 108) fun r11 w12 =>
  canW w12 (⟨r11, 0, none⟩ : Addr) 4 ∧ ∀ w13 : World, w13 = setCells w12 (⟨r11, 0, none⟩ : Addr) 0 [(Value.int .i64 n4), (Value.int .i64 n7), (Value.int .i64 n10), (Slc.v (⟨none, 0, 0⟩ : Slc))] →
  Calls Tryd.prog fn_pack_In_Num ⟨[(Value.pointer i1), (Value.int .i64 (8 : Int))]⟩ w13 fun e14 w15 =>
  ∃ n16 : Int, e14 = .returned (Value.int .i64 n16) ∧
  ∃ (I17 : World → Prop) (mu18 : World → Nat), I17 w15 ∧ (
  ∀ w19 : World, I17 w19 → ∀ u20 u21 u22 u23 u24 u25 u26 u27 u28 u29 u30 u31 : Value,
    ∃ s32 : Slc, World.cell? w19 (⟨r11, 3, none⟩ : Addr) = some (Slc.v s32) ∧
    BIf (decide (((s32.l : Nat) : Int) < n16)) (
      ∃ s33 : Slc, World.cell? (World.drew w19) (⟨r11, 3, none⟩ : Addr) = some (Slc.v s33) ∧
      Calls Tryd.prog fn_entry_readOp ⟨[(Value.pointer i1)]⟩ (World.drew w19) fun e34 w35 =>
      ∃ x36 : Int, ∃ x37 : List UInt8, ∃ x38 : List UInt8, ∃ x39 : List UInt8, ∃ x40 : Int, e34 = .returned (Value.agg ⟨[(Value.int .i64 x36), (strV x37), (strV x38), (strV x39), (Value.int .i64 x40)]⟩) ∧
      (∃ s41 : Slc, World.cell? w35 (⟨r11, 3, none⟩ : Addr) = some (Slc.v s41) ∧
      (Slc.v s41) = (Slc.v s33)) ∧
      newS w35 (.cells ⟨[(Value.int .i64 x36), (strV x37), (strV x38), (strV x39), (Value.int .i64 x40)]⟩ 50) fun r42 w43 =>
      (∃ s44 : Slc, World.cell? w43 (⟨r11, 3, none⟩ : Addr) = some (Slc.v s44) ∧
      (Slc.v s44) = (Slc.v s33)) ∧
      appendS 5 50 [(Value.int .i64 (0 : Int)), (strV ([] : List UInt8)), (strV ([] : List UInt8)), (strV ([] : List UInt8)), (Value.int .i64 (0 : Int))] w43 s33 (.slc (⟨(some (⟨r42, 0, none⟩ : Addr)), 1, 1⟩ : Slc)) fun s45 w46 =>
      canW w46 (⟨r11, 3, none⟩ : Addr) 1 ∧ ∀ w47 : World, w47 = World.setCell w46 (⟨r11, 3, none⟩ : Addr) (Slc.v s45) →
      (I17 w47 ∧ mu18 w47 < mu18 w19)) (
      ∃ n48 : Int, ∃ n49 : Int, ∃ n50 : Int, ∃ s51 : Slc, rowAt w19 (⟨r11, 0, none⟩ : Addr) 0 [(Value.int .i64 n48), (Value.int .i64 n49), (Value.int .i64 n50), (Slc.v s51)] ∧
      K (Value.iface 108 (Value.agg ⟨[(Value.int .i64 n48), (Value.int .i64 n49), (Value.int .i64 n50), (Slc.v s51)]⟩)) w19))

theorem entry_readWriting_eq (i1 : Option Addr) (w : World) (K : Value → World → Prop) : entry_readWriting i1 w K = denF Tryd.prog callB Tryd.f45 (.two .none (.two .none (.two (.two .none (.one (.loop [] [14, 15, 16, 17, 18, 19, 20, 21, 22, 23, 24, 25] .none))) .none))) [(Value.pointer i1)] w K := by kernel_rfl
theorem entry_readWriting_ok (i1 : Option Addr) {w : World} {R : Ending → World → Prop} (h : entry_readWriting i1 w fun v w' => R (.returned v) w') : Calls Tryd.prog fn_entry_readWriting ⟨[(Value.pointer i1)]⟩ w R :=
  calls_of_den callB_ok mixed Tryd.func45 (entry_readWriting_eq i1 w _ ▸ h)

/-- tidewater/entry.entry -/
def entry_entry (r1 : Value) (w : World) (K : Value → World → Prop) : Prop :=
  newS w (.cells ⟨[(Value.int .i64 (0 : Int)), (Value.int .i64 (0 : Int)), (Value.int .i64 (0 : Int)), (Value.int .i64 (0 : Int)), (Value.int .i64 (0 : Int)), (Value.int .i64 (0 : Int)), (Slc.v (⟨none, 0, 0⟩ : Slc)), (strV ([] : List UInt8)), (Value.int .i64 (0 : Int)), (Value.int .i64 (0 : Int)), (Value.int .i64 (0 : Int)), (Slc.v (⟨none, 0, 0⟩ : Slc))]⟩ 25) fun r2 w3 =>
  ((∃ x4 : Int, ∃ x5 : Int, ∃ x6 : Int, ∃ x7 : Slc, r1 = .iface 108 (Value.agg ⟨[(Value.int .i64 x4), (Value.int .i64 x5), (Value.int .i64 x6), (Slc.v x7)]⟩) ∧
  newS w3 (.cells ⟨[(Value.int .i64 (0 : Int)), (Value.int .i64 (0 : Int)), (Value.int .i64 (0 : Int)), (Slc.v (⟨none, 0, 0⟩ : Slc))]⟩ 108) fun r8 w9 =>
  canW w9 (⟨r8, 0, none⟩ : Addr) 4 ∧ ∀ w10 : World, w10 = setCells w9 (⟨r8, 0, none⟩ : Addr) 0 [(Value.int .i64 x4), (Value.int .i64 x5), (Value.int .i64 x6), (Slc.v x7)] →
  ∃ n11 : Int, World.cell? w10 (⟨r8, 0, none⟩ : Addr) = some (Value.int .i64 n11) ∧
  ∃ n12 : Int, World.cell? w10 (⟨r8, 1, none⟩ : Addr) = some (Value.int .i64 n12) ∧
  ∃ n13 : Int, World.cell? w10 (⟨r8, 2, none⟩ : Addr) = some (Value.int .i64 n13) ∧
  newS w10 (.cells ⟨[(Value.int .i64 (0 : Int)), (Value.int .i64 (0 : Int)), (Value.int .i64 (0 : Int)), (Value.int .i64 (0 : Int)), (Value.int .i64 (0 : Int)), (Value.int .i64 (0 : Int)), (Slc.v (⟨none, 0, 0⟩ : Slc)), (strV ([] : List UInt8)), (Value.int .i64 (0 : Int)), (Value.int .i64 (0 : Int)), (Value.int .i64 (0 : Int)), (Slc.v (⟨none, 0, 0⟩ : Slc))]⟩ 25) fun r14 w15 =>
  canW w15 (⟨r14, 0, none⟩ : Addr) 12 ∧ ∀ w16 : World, w16 = setCells w15 (⟨r14, 0, none⟩ : Addr) 0 [(Value.int .i64 (1 : Int)), (Value.int .i64 n11), (Value.int .i64 (0 : Int)), (Value.int .i64 (0 : Int)), (Value.int .i64 n12), (Value.int .i64 n13), (Slc.v (⟨none, 0, 0⟩ : Slc)), (strV ([] : List UInt8)), (Value.int .i64 (0 : Int)), (Value.int .i64 (0 : Int)), (Value.int .i64 (0 : Int)), (Slc.v (⟨none, 0, 0⟩ : Slc))] →
  ∃ s17 : Slc, World.cell? w16 (⟨r8, 3, none⟩ : Addr) = some (Slc.v s17) ∧
  ∃ (I18 : (Int) → World → Prop) (mu19 : (Int) → World → Nat), I18 ((0 : Int)) w16 ∧ (
  ∀ i20 : Int, ∀ w21 : World, I18 i20 w21 → ∀ u22 u23 u24 u25 u26 u27 u28 u29 u30 u31 u32 u33 : Value,
    BIf (decide (i20 < ((s17.l : Nat) : Int))) (
      needSome s17.p fun a34 =>
      0 ≤ i20 ∧ i20 < ((s17.l : Nat) : Int) ∧
      ∃ n35 : Int, ∃ t36 : List UInt8, ∃ t37 : List UInt8, ∃ t38 : List UInt8, ∃ n39 : Int, rowAt w21 (Addr.add a34 ((Int.toNat i20) * 5)) 0 [(Value.int .i64 n35), (strV t36), (strV t37), (strV t38), (Value.int .i64 n39)] ∧
      newS w21 (.cells ⟨[(Value.int .i64 (0 : Int)), (strV ([] : List UInt8)), (strV ([] : List UInt8)), (strV ([] : List UInt8)), (Value.int .i64 (0 : Int))]⟩ 50) fun r40 w41 =>
      canW w41 (⟨r40, 0, none⟩ : Addr) 5 ∧ ∀ w42 : World, w42 = setCells w41 (⟨r40, 0, none⟩ : Addr) 0 [(Value.int .i64 n35), (strV t36), (strV t37), (strV t38), (Value.int .i64 n39)] →
      ∃ s43 : Slc, World.cell? (World.drew w42) (⟨r14, 6, none⟩ : Addr) = some (Slc.v s43) ∧
      ∃ n44 : Int, ∃ t45 : List UInt8, ∃ t46 : List UInt8, ∃ t47 : List UInt8, ∃ n48 : Int, rowAt (World.drew w42) (⟨r40, 0, none⟩ : Addr) 0 [(Value.int .i64 n44), (strV t45), (strV t46), (strV t47), (Value.int .i64 n48)] ∧
      Calls Tryd.prog fn_entry_clean ⟨[(Value.agg ⟨[(Value.int .i64 n44), (strV t45), (strV t46), (strV t47), (Value.int .i64 n48)]⟩)]⟩ (World.drew w42) fun e49 w50 =>
      ∃ x51 : Int, ∃ x52 : List UInt8, ∃ x53 : List UInt8, ∃ x54 : List UInt8, ∃ x55 : Int, e49 = .returned (Value.agg ⟨[(Value.int .i64 x51), (strV x52), (strV x53), (strV x54), (Value.int .i64 x55)]⟩) ∧
      (∃ s56 : Slc, World.cell? w50 (⟨r14, 6, none⟩ : Addr) = some (Slc.v s56) ∧
      (Slc.v s56) = (Slc.v s43)) ∧
      newS w50 (.cells ⟨[(Value.int .i64 x51), (strV x52), (strV x53), (strV x54), (Value.int .i64 x55)]⟩ 50) fun r57 w58 =>
      (∃ s59 : Slc, World.cell? w58 (⟨r14, 6, none⟩ : Addr) = some (Slc.v s59) ∧
      (Slc.v s59) = (Slc.v s43)) ∧
      appendS 5 50 [(Value.int .i64 (0 : Int)), (strV ([] : List UInt8)), (strV ([] : List UInt8)), (strV ([] : List UInt8)), (Value.int .i64 (0 : Int))] w58 s43 (.slc (⟨(some (⟨r57, 0, none⟩ : Addr)), 1, 1⟩ : Slc)) fun s60 w61 =>
      canW w61 (⟨r14, 6, none⟩ : Addr) 1 ∧ ∀ w62 : World, w62 = World.setCell w61 (⟨r14, 6, none⟩ : Addr) (Slc.v s60) →
      inR .i64 (i20 + (1 : Int)) ∧
      (I18 ((i20 + (1 : Int))) w62 ∧ mu19 ((i20 + (1 : Int))) w62 < mu19 i20 w21)) (
      ∃ n63 : Int, ∃ n64 : Int, ∃ n65 : Int, ∃ n66 : Int, ∃ n67 : Int, ∃ n68 : Int, ∃ s69 : Slc, ∃ t70 : List UInt8, ∃ n71 : Int, ∃ n72 : Int, ∃ n73 : Int, ∃ s74 : Slc, rowAt w21 (⟨r14, 0, none⟩ : Addr) 0 [(Value.int .i64 n63), (Value.int .i64 n64), (Value.int .i64 n65), (Value.int .i64 n66), (Value.int .i64 n67), (Value.int .i64 n68), (Slc.v s69), (strV t70), (Value.int .i64 n71), (Value.int .i64 n72), (Value.int .i64 n73), (Slc.v s74)] ∧
      canW w21 (⟨r2, 0, none⟩ : Addr) 12 ∧ ∀ w75 : World, w75 = setCells w21 (⟨r2, 0, none⟩ : Addr) 0 [(Value.int .i64 n63), (Value.int .i64 n64), (Value.int .i64 n65), (Value.int .i64 n66), (Value.int .i64 n67), (Value.int .i64 n68), (Slc.v s69), (strV t70), (Value.int .i64 n71), (Value.int .i64 n72), (Value.int .i64 n73), (Slc.v s74)] →
      ∃ n76 : Int, ∃ n77 : Int, ∃ n78 : Int, ∃ n79 : Int, ∃ n80 : Int, ∃ n81 : Int, ∃ s82 : Slc, ∃ t83 : List UInt8, ∃ n84 : Int, ∃ n85 : Int, ∃ n86 : Int, ∃ s87 : Slc, rowAt w75 (⟨r2, 0, none⟩ : Addr) 0 [(Value.int .i64 n76), (Value.int .i64 n77), (Value.int .i64 n78), (Value.int .i64 n79), (Value.int .i64 n80), (Value.int .i64 n81), (Slc.v s82), (strV t83), (Value.int .i64 n84), (Value.int .i64 n85), (Value.int .i64 n86), (Slc.v s87)] ∧
      K (Value.agg ⟨[(Value.int .i64 n76), (Value.int .i64 n77), (Value.int .i64 n78), (Value.int .i64 n79), (Value.int .i64 n80), (Value.int .i64 n81), (Slc.v s82), (strV t83), (Value.int .i64 n84), (Value.int .i64 n85), (Value.int .i64 n86), (Slc.v s87)]⟩) w75))) ∨
  (asrtK.isOther r1 108 ∧
  ((∃ x88 : Int, ∃ x89 : Int, r1 = .iface 88 (Value.agg ⟨[(Value.int .i64 x88), (Value.int .i64 x89)]⟩) ∧
  newS w3 (.cells ⟨[(Value.int .i64 (0 : Int)), (Value.int .i64 (0 : Int))]⟩ 88) fun r90 w91 =>
  canW w91 (⟨r90, 0, none⟩ : Addr) 2 ∧ ∀ w92 : World, w92 = setCells w91 (⟨r90, 0, none⟩ : Addr) 0 [(Value.int .i64 x88), (Value.int .i64 x89)] →
  ∃ n93 : Int, World.cell? w92 (⟨r90, 0, none⟩ : Addr) = some (Value.int .i64 n93) ∧
  ∃ n94 : Int, World.cell? w92 (⟨r90, 1, none⟩ : Addr) = some (Value.int .i64 n94) ∧
  canW w92 (⟨r2, 0, none⟩ : Addr) 12 ∧ ∀ w95 : World, w95 = setCells w92 (⟨r2, 0, none⟩ : Addr) 0 [(Value.int .i64 (2 : Int)), (Value.int .i64 n93), (Value.int .i64 (0 : Int)), (Value.int .i64 n94), (Value.int .i64 (0 : Int)), (Value.int .i64 (0 : Int)), (Slc.v (⟨none, 0, 0⟩ : Slc)), (strV ([] : List UInt8)), (Value.int .i64 (0 : Int)), (Value.int .i64 (0 : Int)), (Value.int .i64 (0 : Int)), (Slc.v (⟨none, 0, 0⟩ : Slc))] →
  ∃ n96 : Int, ∃ n97 : Int, ∃ n98 : Int, ∃ n99 : Int, ∃ n100 : Int, ∃ n101 : Int, ∃ s102 : Slc, ∃ t103 : List UInt8, ∃ n104 : Int, ∃ n105 : Int, ∃ n106 : Int, ∃ s107 : Slc, rowAt w95 (⟨r2, 0, none⟩ : Addr) 0 [(Value.int .i64 n96), (Value.int .i64 n97), (Value.int .i64 n98), (Value.int .i64 n99), (Value.int .i64 n100), (Value.int .i64 n101), (Slc.v s102), (strV t103), (Value.int .i64 n104), (Value.int .i64 n105), (Value.int .i64 n106), (Slc.v s107)] ∧
  K (Value.agg ⟨[(Value.int .i64 n96), (Value.int .i64 n97), (Value.int .i64 n98), (Value.int .i64 n99), (Value.int .i64 n100), (Value.int .i64 n101), (Slc.v s102), (strV t103), (Value.int .i64 n104), (Value.int .i64 n105), (Value.int .i64 n106), (Slc.v s107)]⟩) w95) ∨
  (asrtK.isOther r1 88 ∧
  ((∃ x108 : Int, ∃ x109 : Int, ∃ x110 : Int, ∃ x111 : List UInt8, r1 = .iface 90 (Value.agg ⟨[(Value.int .i64 x108), (Value.int .i64 x109), (Value.int .i64 x110), (strV x111)]⟩) ∧
  newS w3 (.cells ⟨[(Value.int .i64 (0 : Int)), (Value.int .i64 (0 : Int)), (Value.int .i64 (0 : Int)), (strV ([] : List UInt8))]⟩ 90) fun r112 w113 =>
  canW w113 (⟨r112, 0, none⟩ : Addr) 4 ∧ ∀ w114 : World, w114 = setCells w113 (⟨r112, 0, none⟩ : Addr) 0 [(Value.int .i64 x108), (Value.int .i64 x109), (Value.int .i64 x110), (strV x111)] →
  ∃ n115 : Int, World.cell? w114 (⟨r112, 0, none⟩ : Addr) = some (Value.int .i64 n115) ∧
  ∃ n116 : Int, World.cell? w114 (⟨r112, 1, none⟩ : Addr) = some (Value.int .i64 n116) ∧
  ∃ n117 : Int, World.cell? w114 (⟨r112, 2, none⟩ : Addr) = some (Value.int .i64 n117) ∧
  ∃ t118 : List UInt8, World.cell? w114 (⟨r112, 3, none⟩ : Addr) = some (strV t118) ∧
  canW w114 (⟨r2, 0, none⟩ : Addr) 12 ∧ ∀ w119 : World, w119 = setCells w114 (⟨r2, 0, none⟩ : Addr) 0 [(Value.int .i64 (3 : Int)), (Value.int .i64 n115), (Value.int .i64 n116), (Value.int .i64 n117), (Value.int .i64 (0 : Int)), (Value.int .i64 (0 : Int)), (Slc.v (⟨none, 0, 0⟩ : Slc)), (strV t118), (Value.int .i64 (0 : Int)), (Value.int .i64 (0 : Int)), (Value.int .i64 (0 : Int)), (Slc.v (⟨none, 0, 0⟩ : Slc))] →
  ∃ n120 : Int, ∃ n121 : Int, ∃ n122 : Int, ∃ n123 : Int, ∃ n124 : Int, ∃ n125 : Int, ∃ s126 : Slc, ∃ t127 : List UInt8, ∃ n128 : Int, ∃ n129 : Int, ∃ n130 : Int, ∃ s131 : Slc, rowAt w119 (⟨r2, 0, none⟩ : Addr) 0 [(Value.int .i64 n120), (Value.int .i64 n121), (Value.int .i64 n122), (Value.int .i64 n123), (Value.int .i64 n124), (Value.int .i64 n125), (Slc.v s126), (strV t127), (Value.int .i64 n128), (Value.int .i64 n129), (Value.int .i64 n130), (Slc.v s131)] ∧
  K (Value.agg ⟨[(Value.int .i64 n120), (Value.int .i64 n121), (Value.int .i64 n122), (Value.int .i64 n123), (Value.int .i64 n124), (Value.int .i64 n125), (Slc.v s126), (strV t127), (Value.int .i64 n128), (Value.int .i64 n129), (Value.int .i64 n130), (Slc.v s131)]⟩) w119) ∨
  (asrtK.isOther r1 90 ∧
  ((∃ x132 : Int, ∃ x133 : Int, r1 = .iface 92 (Value.agg ⟨[(Value.int .i64 x132), (Value.int .i64 x133)]⟩) ∧
  newS w3 (.cells ⟨[(Value.int .i64 (0 : Int)), (Value.int .i64 (0 : Int))]⟩ 92) fun r134 w135 =>
  canW w135 (⟨r134, 0, none⟩ : Addr) 2 ∧ ∀ w136 : World, w136 = setCells w135 (⟨r134, 0, none⟩ : Addr) 0 [(Value.int .i64 x132), (Value.int .i64 x133)] →
  ∃ n137 : Int, World.cell? w136 (⟨r134, 0, none⟩ : Addr) = some (Value.int .i64 n137) ∧
  ∃ n138 : Int, World.cell? w136 (⟨r134, 1, none⟩ : Addr) = some (Value.int .i64 n138) ∧
  canW w136 (⟨r2, 0, none⟩ : Addr) 12 ∧ ∀ w139 : World, w139 = setCells w136 (⟨r2, 0, none⟩ : Addr) 0 [(Value.int .i64 (4 : Int)), (Value.int .i64 n137), (Value.int .i64 n138), (Value.int .i64 (0 : Int)), (Value.int .i64 (0 : Int)), (Value.int .i64 (0 : Int)), (Slc.v (⟨none, 0, 0⟩ : Slc)), (strV ([] : List UInt8)), (Value.int .i64 (0 : Int)), (Value.int .i64 (0 : Int)), (Value.int .i64 (0 : Int)), (Slc.v (⟨none, 0, 0⟩ : Slc))] →
  ∃ n140 : Int, ∃ n141 : Int, ∃ n142 : Int, ∃ n143 : Int, ∃ n144 : Int, ∃ n145 : Int, ∃ s146 : Slc, ∃ t147 : List UInt8, ∃ n148 : Int, ∃ n149 : Int, ∃ n150 : Int, ∃ s151 : Slc, rowAt w139 (⟨r2, 0, none⟩ : Addr) 0 [(Value.int .i64 n140), (Value.int .i64 n141), (Value.int .i64 n142), (Value.int .i64 n143), (Value.int .i64 n144), (Value.int .i64 n145), (Slc.v s146), (strV t147), (Value.int .i64 n148), (Value.int .i64 n149), (Value.int .i64 n150), (Slc.v s151)] ∧
  K (Value.agg ⟨[(Value.int .i64 n140), (Value.int .i64 n141), (Value.int .i64 n142), (Value.int .i64 n143), (Value.int .i64 n144), (Value.int .i64 n145), (Slc.v s146), (strV t147), (Value.int .i64 n148), (Value.int .i64 n149), (Value.int .i64 n150), (Slc.v s151)]⟩) w139) ∨
  (asrtK.isOther r1 92 ∧
  ∃ x152 : Int, ∃ x153 : Int, ∃ x154 : Int, ∃ x155 : Int, ∃ x156 : Slc, r1 = .iface 94 (Value.agg ⟨[(Value.int .i64 x152), (Value.int .i64 x153), (Value.int .i64 x154), (Value.int .i64 x155), (Slc.v x156)]⟩) ∧
  newS w3 (.cells ⟨[(Value.int .i64 (0 : Int)), (Value.int .i64 (0 : Int)), (Value.int .i64 (0 : Int)), (Value.int .i64 (0 : Int)), (Slc.v (⟨none, 0, 0⟩ : Slc))]⟩ 94) fun r157 w158 =>
  canW w158 (⟨r157, 0, none⟩ : Addr) 5 ∧ ∀ w159 : World, w159 = setCells w158 (⟨r157, 0, none⟩ : Addr) 0 [(Value.int .i64 x152), (Value.int .i64 x153), (Value.int .i64 x154), (Value.int .i64 x155), (Slc.v x156)] →
  ∃ n160 : Int, World.cell? (World.drew w159) (⟨r157, 0, none⟩ : Addr) = some (Value.int .i64 n160) ∧
  ∃ n161 : Int, World.cell? (World.drew w159) (⟨r157, 1, none⟩ : Addr) = some (Value.int .i64 n161) ∧
  ∃ n162 : Int, World.cell? (World.drew w159) (⟨r157, 2, none⟩ : Addr) = some (Value.int .i64 n162) ∧
  ∃ n163 : Int, World.cell? (World.drew w159) (⟨r157, 3, none⟩ : Addr) = some (Value.int .i64 n163) ∧
  ∃ s164 : Slc, World.cell? (World.drew w159) (⟨r157, 4, none⟩ : Addr) = some (Slc.v s164) ∧
  Calls Tryd.prog fn_slices_Clone_byte ⟨[(Slc.v s164)]⟩ (World.drew w159) fun e165 w166 =>
  ∃ s167 : Slc, e165 = .returned (Slc.v s167) ∧
  (∃ n168 : Int, World.cell? w166 (⟨r157, 3, none⟩ : Addr) = some (Value.int .i64 n168) ∧
  (Value.int .i64 n168) = (Value.int .i64 n163)) ∧
  (∃ n169 : Int, World.cell? w166 (⟨r157, 2, none⟩ : Addr) = some (Value.int .i64 n169) ∧
  (Value.int .i64 n169) = (Value.int .i64 n162)) ∧
  (∃ n170 : Int, World.cell? w166 (⟨r157, 1, none⟩ : Addr) = some (Value.int .i64 n170) ∧
  (Value.int .i64 n170) = (Value.int .i64 n161)) ∧
  (∃ n171 : Int, World.cell? w166 (⟨r157, 0, none⟩ : Addr) = some (Value.int .i64 n171) ∧
  (Value.int .i64 n171) = (Value.int .i64 n160)) ∧
  canW w166 (⟨r2, 0, none⟩ : Addr) 12 ∧ ∀ w172 : World, w172 = setCells w166 (⟨r2, 0, none⟩ : Addr) 0 [(Value.int .i64 (5 : Int)), (Value.int .i64 n160), (Value.int .i64 (0 : Int)), (Value.int .i64 (0 : Int)), (Value.int .i64 (0 : Int)), (Value.int .i64 (0 : Int)), (Slc.v (⟨none, 0, 0⟩ : Slc)), (strV ([] : List UInt8)), (Value.int .i64 n161), (Value.int .i64 n163), (Value.int .i64 n162), (Slc.v s167)] →
  ∃ n173 : Int, ∃ n174 : Int, ∃ n175 : Int, ∃ n176 : Int, ∃ n177 : Int, ∃ n178 : Int, ∃ s179 : Slc, ∃ t180 : List UInt8, ∃ n181 : Int, ∃ n182 : Int, ∃ n183 : Int, ∃ s184 : Slc, rowAt w172 (⟨r2, 0, none⟩ : Addr) 0 [(Value.int .i64 n173), (Value.int .i64 n174), (Value.int .i64 n175), (Value.int .i64 n176), (Value.int .i64 n177), (Value.int .i64 n178), (Slc.v s179), (strV t180), (Value.int .i64 n181), (Value.int .i64 n182), (Value.int .i64 n183), (Slc.v s184)] ∧
  K (Value.agg ⟨[(Value.int .i64 n173), (Value.int .i64 n174), (Value.int .i64 n175), (Value.int .i64 n176), (Value.int .i64 n177), (Value.int .i64 n178), (Slc.v s179), (strV t180), (Value.int .i64 n181), (Value.int .i64 n182), (Value.int .i64 n183), (Slc.v s184)]⟩) w172))))))))

theorem entry_entry_eq (r1 : Value) (w : World) (K : Value → World → Prop) : entry_entry r1 w K = denF Tryd.prog callB Tryd.f46 (.two .none (.two (.two .none (.one (.two .none (.two (.two .none (.two .none (.two (.two .none (.one (.loop [(25, (Sh.int .i64))] [6, 26, 27, 28, 29, 30, 31, 32, 33, 34, 35, 36] .none))) .none))) .none)))) .none)) [r1] w K := by kernel_rfl
theorem entry_entry_ok (r1 : Value) {w : World} {R : Ending → World → Prop} (h : entry_entry r1 w fun v w' => R (.returned v) w') : Calls Tryd.prog fn_entry_entry ⟨[r1]⟩ w R :=
  calls_of_den callB_ok mixed Tryd.func46 (entry_entry_eq r1 w _ ▸ h)

/-- tidewater/entry.Read -/
def entry_Read (b1 : Slc) (w : World) (K : Value → World → Prop) : Prop :=
  newS w (.cells ⟨[(Value.int .i64 (0 : Int)), (Value.int .i64 (0 : Int)), (Value.int .i64 (0 : Int)), (Value.int .i64 (0 : Int)), (Value.int .i64 (0 : Int)), (Value.int .i64 (0 : Int)), (Slc.v (⟨none, 0, 0⟩ : Slc)), (strV ([] : List UInt8)), (Value.int .i64 (0 : Int)), (Value.int .i64 (0 : Int)), (Value.int .i64 (0 : Int)), (Slc.v (⟨none, 0, 0⟩ : Slc))]⟩ 25) fun r2 w3 =>
  Calls Tryd.prog fn_pack_Read ⟨[(Slc.v b1)]⟩ w3 fun e4 w5 =>
  ∃ p6 : Option Addr, e4 = .returned (Value.pointer p6) ∧
  ∃ J7 : (Value) → World → Prop,
  (
    Calls Tryd.prog fn_pack_In_Num ⟨[(Value.pointer p6), (Value.int .i64 (5 : Int))]⟩ w5 fun e8 w9 =>
    ∃ n10 : Int, e8 = .returned (Value.int .i64 n10) ∧
    BIf (decide (n10 = (1 : Int))) (
      Calls Tryd.prog fn_entry_readWriting ⟨[(Value.pointer p6)]⟩ w9 fun e11 w12 =>
      ∃ e13 : Value, e11 = .returned e13 ∧
      J7 (e13) w12) (
      BIf (decide (n10 = (2 : Int))) (
        Calls Tryd.prog fn_pack_In_Num ⟨[(Value.pointer p6), (Value.int .i64 (12 : Int))]⟩ w9 fun e14 w15 =>
        ∃ n16 : Int, e14 = .returned (Value.int .i64 n16) ∧
        Calls Tryd.prog fn_pack_In_Num ⟨[(Value.pointer p6), (Value.int .i64 (4 : Int))]⟩ w15 fun e17 w18 =>
        ∃ n19 : Int, e17 = .returned (Value.int .i64 n19) ∧
        J7 ((Value.iface 88 (Value.agg ⟨[(Value.int .i64 n16), (Value.int .i64 n19)]⟩))) w18) (
        BIf (decide (n10 = (3 : Int))) (
          Calls Tryd.prog fn_pack_In_Num ⟨[(Value.pointer p6), (Value.int .i64 (12 : Int))]⟩ w9 fun e20 w21 =>
          ∃ n22 : Int, e20 = .returned (Value.int .i64 n22) ∧
          Calls Tryd.prog fn_pack_In_Num ⟨[(Value.pointer p6), (Value.int .i64 (12 : Int))]⟩ w21 fun e23 w24 =>
          ∃ n25 : Int, e23 = .returned (Value.int .i64 n25) ∧
          Calls Tryd.prog fn_pack_In_Num ⟨[(Value.pointer p6), (Value.int .i64 (4 : Int))]⟩ w24 fun e26 w27 =>
          ∃ n28 : Int, e26 = .returned (Value.int .i64 n28) ∧
          Calls Tryd.prog fn_pack_In_Text ⟨[(Value.pointer p6), (Value.int .i64 (2048 : Int))]⟩ w27 fun e29 w30 =>
          ∃ t31 : List UInt8, e29 = .returned (strV t31) ∧
          J7 ((Value.iface 90 (Value.agg ⟨[(Value.int .i64 n22), (Value.int .i64 n25), (Value.int .i64 n28), (strV t31)]⟩))) w30) (
          BIf (decide (n10 = (4 : Int))) (
            Calls Tryd.prog fn_pack_In_Num ⟨[(Value.pointer p6), (Value.int .i64 (12 : Int))]⟩ w9 fun e32 w33 =>
            ∃ n34 : Int, e32 = .returned (Value.int .i64 n34) ∧
            Calls Tryd.prog fn_pack_In_Num ⟨[(Value.pointer p6), (Value.int .i64 (12 : Int))]⟩ w33 fun e35 w36 =>
            ∃ n37 : Int, e35 = .returned (Value.int .i64 n37) ∧
            J7 ((Value.iface 92 (Value.agg ⟨[(Value.int .i64 n34), (Value.int .i64 n37)]⟩))) w36) (
            BIf (decide (n10 = (5 : Int))) (
              Calls Tryd.prog fn_pack_In_Num ⟨[(Value.pointer p6), (Value.int .i64 (12 : Int))]⟩ w9 fun e38 w39 =>
              ∃ n40 : Int, e38 = .returned (Value.int .i64 n40) ∧
              Calls Tryd.prog fn_pack_In_Num ⟨[(Value.pointer p6), (Value.int .i64 (4096 : Int))]⟩ w39 fun e41 w42 =>
              ∃ n43 : Int, e41 = .returned (Value.int .i64 n43) ∧
              Calls Tryd.prog fn_pack_In_Num ⟨[(Value.pointer p6), (Value.int .i64 (64 : Int))]⟩ w42 fun e44 w45 =>
              ∃ n46 : Int, e44 = .returned (Value.int .i64 n46) ∧
              Calls Tryd.prog fn_pack_In_Num ⟨[(Value.pointer p6), (Value.int .i64 (64 : Int))]⟩ w45 fun e47 w48 =>
              ∃ n49 : Int, e47 = .returned (Value.int .i64 n49) ∧
              newS w48 (.cells ⟨[(Value.int .i64 (0 : Int)), (Value.int .i64 (0 : Int)), (Value.int .i64 (0 : Int)), (Value.int .i64 (0 : Int)), (Slc.v (⟨none, 0, 0⟩ : Slc))]⟩ 94) fun r50 w51 =>
              canW w51 (⟨r50, 0, none⟩ : Addr) 5 ∧ ∀ w52 : World, w52 = setCells w51 (⟨r50, 0, none⟩ : Addr) 0 [(Value.int .i64 n40), (Value.int .i64 n43), (Value.int .i64 n46), (Value.int .i64 n49), (Slc.v (⟨none, 0, 0⟩ : Slc))] →
              Calls Tryd.prog fn_pack_In_Text ⟨[(Value.pointer p6), (Value.int .i64 (2048 : Int))]⟩ w52 fun e53 w54 =>
              ∃ t55 : List UInt8, e53 = .returned (strV t55) ∧
              bytesK Tryd.prog 5 t55 w54 fun s56 w57 =>
              canW w57 (⟨r50, 4, none⟩ : Addr) 1 ∧ ∀ w58 : World, w58 = World.setCell w57 (⟨r50, 4, none⟩ : Addr) (Slc.v s56) →
              ∃ n59 : Int, ∃ n60 : Int, ∃ n61 : Int, ∃ n62 : Int, ∃ s63 : Slc, rowAt w58 (⟨r50, 0, none⟩ : Addr) 0 [(Value.int .i64 n59), (Value.int .i64 n60), (Value.int .i64 n61), (Value.int .i64 n62), (Slc.v s63)] ∧
              J7 ((Value.iface 94 (Value.agg ⟨[(Value.int .i64 n59), (Value.int .i64 n60), (Value.int .i64 n61), (Value.int .i64 n62), (Slc.v s63)]⟩))) w58) (
              J7 (Value.nilIface) w9)))))) ∧ (
  ∀ r64 : Value, ∀ w65 : World, J7 r64 w65 → ∀ u66 u67 u68 u69 u70 u71 u72 u73 u74 u75 u76 u77 u78 u79 u80 u81 u82 u83 u84 u85 u86 u87 u88 u89 u90 u91 u92 u93 u94 u95 u96 u97 u98 u99 u100 u101 u102 u103 u104 u105 u106 u107 u108 u109 u110 u111 u112 u113 u114 u115 u116 u117 : Value,
    Calls Tryd.prog fn_pack_In_End ⟨[(Value.pointer p6)]⟩ w65 fun e118 w119 =>
    ∃ e120 : Value, e118 = .returned e120 ∧
    isI e120 ∧
    BIf (!isNilI e120) (
      canW w119 (⟨r2, 0, none⟩ : Addr) 12 ∧ ∀ w121 : World, w121 = setCells w119 (⟨r2, 0, none⟩ : Addr) 0 [(Value.int .i64 (0 : Int)), (Value.int .i64 (0 : Int)), (Value.int .i64 (0 : Int)), (Value.int .i64 (0 : Int)), (Value.int .i64 (0 : Int)), (Value.int .i64 (0 : Int)), (Slc.v (⟨none, 0, 0⟩ : Slc)), (strV ([] : List UInt8)), (Value.int .i64 (0 : Int)), (Value.int .i64 (0 : Int)), (Value.int .i64 (0 : Int)), (Slc.v (⟨none, 0, 0⟩ : Slc))] →
      ∃ n122 : Int, ∃ n123 : Int, ∃ n124 : Int, ∃ n125 : Int, ∃ n126 : Int, ∃ n127 : Int, ∃ s128 : Slc, ∃ t129 : List UInt8, ∃ n130 : Int, ∃ n131 : Int, ∃ n132 : Int, ∃ s133 : Slc, rowAt w121 (⟨r2, 0, none⟩ : Addr) 0 [(Value.int .i64 n122), (Value.int .i64 n123), (Value.int .i64 n124), (Value.int .i64 n125), (Value.int .i64 n126), (Value.int .i64 n127), (Slc.v s128), (strV t129), (Value.int .i64 n130), (Value.int .i64 n131), (Value.int .i64 n132), (Slc.v s133)] ∧
      K (Value.tuple ⟨[(Value.agg ⟨[(Value.int .i64 n122), (Value.int .i64 n123), (Value.int .i64 n124), (Value.int .i64 n125), (Value.int .i64 n126), (Value.int .i64 n127), (Slc.v s128), (strV t129), (Value.int .i64 n130), (Value.int .i64 n131), (Value.int .i64 n132), (Slc.v s133)]⟩), e120]⟩) w121) (
      isI r64 ∧
      BIf (isNilI r64) (
        ∃ v134 : Value, World.cell? (World.drew w119) (⟨gl_ErrForm, 0, none⟩ : Addr) = some v134 ∧
        canW (World.drew w119) (⟨r2, 0, none⟩ : Addr) 12 ∧ ∀ w135 : World, w135 = setCells (World.drew w119) (⟨r2, 0, none⟩ : Addr) 0 [(Value.int .i64 (0 : Int)), (Value.int .i64 (0 : Int)), (Value.int .i64 (0 : Int)), (Value.int .i64 (0 : Int)), (Value.int .i64 (0 : Int)), (Value.int .i64 (0 : Int)), (Slc.v (⟨none, 0, 0⟩ : Slc)), (strV ([] : List UInt8)), (Value.int .i64 (0 : Int)), (Value.int .i64 (0 : Int)), (Value.int .i64 (0 : Int)), (Slc.v (⟨none, 0, 0⟩ : Slc))] →
        (∃ v136 : Value, World.cell? w135 (⟨gl_ErrForm, 0, none⟩ : Addr) = some v136 ∧
        v136 = v134) ∧
        ∃ n137 : Int, ∃ n138 : Int, ∃ n139 : Int, ∃ n140 : Int, ∃ n141 : Int, ∃ n142 : Int, ∃ s143 : Slc, ∃ t144 : List UInt8, ∃ n145 : Int, ∃ n146 : Int, ∃ n147 : Int, ∃ s148 : Slc, rowAt w135 (⟨r2, 0, none⟩ : Addr) 0 [(Value.int .i64 n137), (Value.int .i64 n138), (Value.int .i64 n139), (Value.int .i64 n140), (Value.int .i64 n141), (Value.int .i64 n142), (Slc.v s143), (strV t144), (Value.int .i64 n145), (Value.int .i64 n146), (Value.int .i64 n147), (Slc.v s148)] ∧
        K (Value.tuple ⟨[(Value.agg ⟨[(Value.int .i64 n137), (Value.int .i64 n138), (Value.int .i64 n139), (Value.int .i64 n140), (Value.int .i64 n141), (Value.int .i64 n142), (Slc.v s143), (strV t144), (Value.int .i64 n145), (Value.int .i64 n146), (Value.int .i64 n147), (Slc.v s148)]⟩), v134]⟩) w135) (
        ∃ (t149 : Nat) (v150 rv151 : Value) (g152 : Nat), r64 = .iface t149 v150 ∧ (∀ w : World, (method (Array.size Tryd.prog.types + Made.depth) t149 v150 "tidewater/entry.right").run Tryd.prog w = .ok (g152, rv151) w) ∧ callB g152 = true ∧
        Calls Tryd.prog g152 ⟨rv151 :: []⟩ w119 fun e153 w154 =>
        ∃ b155 : Bool, e153 = .returned (Value.bool b155) ∧
        BIf (!b155) (
          ∃ v156 : Value, World.cell? (World.drew w154) (⟨gl_ErrForm, 0, none⟩ : Addr) = some v156 ∧
          canW (World.drew w154) (⟨r2, 0, none⟩ : Addr) 12 ∧ ∀ w157 : World, w157 = setCells (World.drew w154) (⟨r2, 0, none⟩ : Addr) 0 [(Value.int .i64 (0 : Int)), (Value.int .i64 (0 : Int)), (Value.int .i64 (0 : Int)), (Value.int .i64 (0 : Int)), (Value.int .i64 (0 : Int)), (Value.int .i64 (0 : Int)), (Slc.v (⟨none, 0, 0⟩ : Slc)), (strV ([] : List UInt8)), (Value.int .i64 (0 : Int)), (Value.int .i64 (0 : Int)), (Value.int .i64 (0 : Int)), (Slc.v (⟨none, 0, 0⟩ : Slc))] →
          (∃ v158 : Value, World.cell? w157 (⟨gl_ErrForm, 0, none⟩ : Addr) = some v158 ∧
          v158 = v156) ∧
          ∃ n159 : Int, ∃ n160 : Int, ∃ n161 : Int, ∃ n162 : Int, ∃ n163 : Int, ∃ n164 : Int, ∃ s165 : Slc, ∃ t166 : List UInt8, ∃ n167 : Int, ∃ n168 : Int, ∃ n169 : Int, ∃ s170 : Slc, rowAt w157 (⟨r2, 0, none⟩ : Addr) 0 [(Value.int .i64 n159), (Value.int .i64 n160), (Value.int .i64 n161), (Value.int .i64 n162), (Value.int .i64 n163), (Value.int .i64 n164), (Slc.v s165), (strV t166), (Value.int .i64 n167), (Value.int .i64 n168), (Value.int .i64 n169), (Slc.v s170)] ∧
          K (Value.tuple ⟨[(Value.agg ⟨[(Value.int .i64 n159), (Value.int .i64 n160), (Value.int .i64 n161), (Value.int .i64 n162), (Value.int .i64 n163), (Value.int .i64 n164), (Slc.v s165), (strV t166), (Value.int .i64 n167), (Value.int .i64 n168), (Value.int .i64 n169), (Slc.v s170)]⟩), v156]⟩) w157) (
          Calls Tryd.prog fn_entry_entry ⟨[r64]⟩ w154 fun e171 w172 =>
          ∃ x173 : Int, ∃ x174 : Int, ∃ x175 : Int, ∃ x176 : Int, ∃ x177 : Int, ∃ x178 : Int, ∃ x179 : Slc, ∃ x180 : List UInt8, ∃ x181 : Int, ∃ x182 : Int, ∃ x183 : Int, ∃ x184 : Slc, e171 = .returned (Value.agg ⟨[(Value.int .i64 x173), (Value.int .i64 x174), (Value.int .i64 x175), (Value.int .i64 x176), (Value.int .i64 x177), (Value.int .i64 x178), (Slc.v x179), (strV x180), (Value.int .i64 x181), (Value.int .i64 x182), (Value.int .i64 x183), (Slc.v x184)]⟩) ∧
          canW w172 (⟨r2, 0, none⟩ : Addr) 12 ∧ ∀ w185 : World, w185 = setCells w172 (⟨r2, 0, none⟩ : Addr) 0 [(Value.int .i64 x173), (Value.int .i64 x174), (Value.int .i64 x175), (Value.int .i64 x176), (Value.int .i64 x177), (Value.int .i64 x178), (Slc.v x179), (strV x180), (Value.int .i64 x181), (Value.int .i64 x182), (Value.int .i64 x183), (Slc.v x184)] →
          ∃ n186 : Int, ∃ n187 : Int, ∃ n188 : Int, ∃ n189 : Int, ∃ n190 : Int, ∃ n191 : Int, ∃ s192 : Slc, ∃ t193 : List UInt8, ∃ n194 : Int, ∃ n195 : Int, ∃ n196 : Int, ∃ s197 : Slc, rowAt w185 (⟨r2, 0, none⟩ : Addr) 0 [(Value.int .i64 n186), (Value.int .i64 n187), (Value.int .i64 n188), (Value.int .i64 n189), (Value.int .i64 n190), (Value.int .i64 n191), (Slc.v s192), (strV t193), (Value.int .i64 n194), (Value.int .i64 n195), (Value.int .i64 n196), (Slc.v s197)] ∧
          K (Value.tuple ⟨[(Value.agg ⟨[(Value.int .i64 n186), (Value.int .i64 n187), (Value.int .i64 n188), (Value.int .i64 n189), (Value.int .i64 n190), (Value.int .i64 n191), (Slc.v s192), (strV t193), (Value.int .i64 n194), (Value.int .i64 n195), (Value.int .i64 n196), (Slc.v s197)]⟩), Value.nilIface]⟩) w185))))

theorem entry_Read_eq (b1 : Slc) (w : World) (K : Value → World → Prop) : entry_Read b1 w K = denF Tryd.prog callB Tryd.f22 (.two .none (.two .none (.two .none (.cut [(5, Sh.any)] [6, 10, 11, 12, 13, 14, 15, 16, 17, 18, 19, 20, 21, 22, 23, 24, 25, 26, 27, 28, 29, 30, 31, 32, 33, 34, 35, 36, 37, 38, 39, 40, 41, 42, 43, 44, 45, 46, 47, 48, 49, 50, 51, 52, 53, 54, 55, 56, 57, 58, 59, 60] .none .none)))) [(Slc.v b1)] w K := by kernel_rfl
theorem entry_Read_ok (b1 : Slc) {w : World} {R : Ending → World → Prop} (h : entry_Read b1 w fun v w' => R (.returned v) w') : Calls Tryd.prog fn_entry_Read ⟨[(Slc.v b1)]⟩ w R :=
  calls_of_den callB_ok mixed Tryd.func22 (entry_Read_eq b1 w _ ▸ h)

end Go.D
