/-
  WHAT IS PROVED: verification conditions of functions of this program, each with its soundness. No further conditions.
-/
import Derived.Test.YtaagbjbgaockdaaDoorBase
set_option linter.unusedSimpArgs false
set_option maxRecDepth 100000
set_option linter.unusedVariables false
namespace Go.D
open Go Go.Proofs
/-- tidewater/tidewaternum.In -/
def tidewaternum_In (list1 : Slc) (n2 : Int) (w : World) (K : Value → World → Prop) : Prop :=
  ∃ (I3 : (Int) → World → Prop) (mu4 : (Int) → World → Nat), I3 ((0 : Int)) w ∧ (
  ∀ i5 : Int, ∀ w6 : World, I3 i5 w6 → ∀ u7 u8 u9 u10 u11 u12 u13 u14 u15 : Value,
    BIf (decide (i5 < ((list1.l : Nat) : Int))) (
      needSome list1.p fun a16 =>
      0 ≤ i5 ∧ i5 < ((list1.l : Nat) : Int) ∧
      ∃ n17 : Int, World.cell? w6 (Addr.add a16 ((Int.toNat i5) * 1)) = some (Value.int .i64 n17) ∧
      BIf (decide (n17 = n2)) (
        K (Value.bool true) w6) (
        inR .i64 (i5 + (1 : Int)) ∧
        (I3 ((i5 + (1 : Int))) w6 ∧ mu4 ((i5 + (1 : Int))) w6 < mu4 i5 w6))) (
      K (Value.bool false) w6))

theorem tidewaternum_In_eq (list1 : Slc) (n2 : Int) (w : World) (K : Value → World → Prop) : tidewaternum_In list1 n2 w K = denF Tryd.prog callB Tryd.f35 (.two .none (.two (.two .none (.one (.loop [(9, (Sh.int .i64))] [4, 6, 10, 11, 12, 13, 14, 15, 16] .none))) .none)) [(Slc.v list1), (Value.int .i64 n2)] w K := by kernel_rfl
theorem tidewaternum_In_ok (list1 : Slc) (n2 : Int) {w : World} {R : Ending → World → Prop} (h : tidewaternum_In list1 n2 w fun v w' => R (.returned v) w') : Calls Tryd.prog fn_tidewaternum_In ⟨[(Slc.v list1), (Value.int .i64 n2)]⟩ w R :=
  calls_of_den callB_ok mixed Tryd.func35 (tidewaternum_In_eq list1 n2 w _ ▸ h)

/-- tidewater/tidewaterref32.New -/
def tidewaterref32_New (n1 : Int) (w : World) (K : Value → World → Prop) : Prop :=
  newS w (.cells ⟨[(Slc.v (⟨none, 0, 0⟩ : Slc)), (Slc.v (⟨none, 0, 0⟩ : Slc)), (Slc.v (⟨none, 0, 0⟩ : Slc))]⟩ 71) fun r2 w3 =>
  ∃ (I4 : (Int) → World → Prop) (mu5 : (Int) → World → Nat), I4 ((0 : Int)) w3 ∧ (
  ∀ i6 : Int, ∀ w7 : World, I4 i6 w7 → ∀ u8 u9 u10 u11 u12 u13 u14 u15 u16 u17 u18 u19 u20 u21 u22 u23 u24 u25 u26 u27 u28 u29 u30 : Value,
    BIf (decide (i6 < n1)) (
      ∃ s31 : Slc, World.cell? (World.drew w7) (⟨r2, 0, none⟩ : Addr) = some (Slc.v s31) ∧
      ∃ s32 : Slc, World.cell? (World.drew w7) (⟨r2, 1, none⟩ : Addr) = some (Slc.v s32) ∧
      (
        newS (World.drew w7) (.cells ⟨[(Value.bool true)]⟩ 4) fun r33 w34 =>
        (∃ s35 : Slc, World.cell? w34 (⟨r2, 1, none⟩ : Addr) = some (Slc.v s35) ∧
        (Slc.v s35) = (Slc.v s32)) ∧
        (∃ s36 : Slc, World.cell? w34 (⟨r2, 0, none⟩ : Addr) = some (Slc.v s36) ∧
        (Slc.v s36) = (Slc.v s31)) ∧
        (
          appendS 1 4 [(Value.bool false)] w34 s31 (.slc (⟨(some (⟨r33, 0, none⟩ : Addr)), 1, 1⟩ : Slc)) fun s37 w38 =>
          (∃ s39 : Slc, World.cell? w38 (⟨r2, 1, none⟩ : Addr) = some (Slc.v s39) ∧
          (Slc.v s39) = (Slc.v s32)) ∧
          newS w38 (.cells ⟨[(Value.bool false)]⟩ 4) fun r40 w41 =>
          (∃ s42 : Slc, World.cell? w41 (⟨r2, 1, none⟩ : Addr) = some (Slc.v s42) ∧
          (Slc.v s42) = (Slc.v s32)) ∧
          appendS 1 4 [(Value.bool false)] w41 s32 (.slc (⟨(some (⟨r40, 0, none⟩ : Addr)), 1, 1⟩ : Slc)) fun s43 w44 =>
          canW w44 (⟨r2, 0, none⟩ : Addr) 1 ∧ ∀ w45 : World, w45 = World.setCell w44 (⟨r2, 0, none⟩ : Addr) (Slc.v s37) →
          canW w45 (⟨r2, 1, none⟩ : Addr) 1 ∧ ∀ w46 : World, w46 = World.setCell w45 (⟨r2, 1, none⟩ : Addr) (Slc.v s43) →
          inR .i64 (i6 + (1 : Int)) ∧
          (I4 ((i6 + (1 : Int))) w46 ∧ mu5 ((i6 + (1 : Int))) w46 < mu5 i6 w7)) ∧
        (
          newS w34 (.cells ⟨[(Value.bool false)]⟩ 4) fun r47 w48 =>
          (∃ s49 : Slc, World.cell? w48 (⟨r2, 1, none⟩ : Addr) = some (Slc.v s49) ∧
          (Slc.v s49) = (Slc.v s32)) ∧
          (∃ s50 : Slc, World.cell? w48 (⟨r2, 0, none⟩ : Addr) = some (Slc.v s50) ∧
          (Slc.v s50) = (Slc.v s31)) ∧
          appendS 1 4 [(Value.bool false)] w48 s31 (.slc (⟨(some (⟨r33, 0, none⟩ : Addr)), 1, 1⟩ : Slc)) fun s51 w52 =>
          (∃ s53 : Slc, World.cell? w52 (⟨r2, 1, none⟩ : Addr) = some (Slc.v s53) ∧
          (Slc.v s53) = (Slc.v s32)) ∧
          appendS 1 4 [(Value.bool false)] w52 s32 (.slc (⟨(some (⟨r47, 0, none⟩ : Addr)), 1, 1⟩ : Slc)) fun s54 w55 =>
          canW w55 (⟨r2, 0, none⟩ : Addr) 1 ∧ ∀ w56 : World, w56 = World.setCell w55 (⟨r2, 0, none⟩ : Addr) (Slc.v s51) →
          canW w56 (⟨r2, 1, none⟩ : Addr) 1 ∧ ∀ w57 : World, w57 = World.setCell w56 (⟨r2, 1, none⟩ : Addr) (Slc.v s54) →
          inR .i64 (i6 + (1 : Int)) ∧
          (I4 ((i6 + (1 : Int))) w57 ∧ mu5 ((i6 + (1 : Int))) w57 < mu5 i6 w7))) ∧
      (
        newS (World.drew w7) (.cells ⟨[(Value.bool false)]⟩ 4) fun r58 w59 =>
        (∃ s60 : Slc, World.cell? w59 (⟨r2, 1, none⟩ : Addr) = some (Slc.v s60) ∧
        (Slc.v s60) = (Slc.v s32)) ∧
        (∃ s61 : Slc, World.cell? w59 (⟨r2, 0, none⟩ : Addr) = some (Slc.v s61) ∧
        (Slc.v s61) = (Slc.v s31)) ∧
        newS w59 (.cells ⟨[(Value.bool true)]⟩ 4) fun r62 w63 =>
        (∃ s64 : Slc, World.cell? w63 (⟨r2, 1, none⟩ : Addr) = some (Slc.v s64) ∧
        (Slc.v s64) = (Slc.v s32)) ∧
        (∃ s65 : Slc, World.cell? w63 (⟨r2, 0, none⟩ : Addr) = some (Slc.v s65) ∧
        (Slc.v s65) = (Slc.v s31)) ∧
        appendS 1 4 [(Value.bool false)] w63 s31 (.slc (⟨(some (⟨r62, 0, none⟩ : Addr)), 1, 1⟩ : Slc)) fun s66 w67 =>
        (∃ s68 : Slc, World.cell? w67 (⟨r2, 1, none⟩ : Addr) = some (Slc.v s68) ∧
        (Slc.v s68) = (Slc.v s32)) ∧
        appendS 1 4 [(Value.bool false)] w67 s32 (.slc (⟨(some (⟨r58, 0, none⟩ : Addr)), 1, 1⟩ : Slc)) fun s69 w70 =>
        canW w70 (⟨r2, 0, none⟩ : Addr) 1 ∧ ∀ w71 : World, w71 = World.setCell w70 (⟨r2, 0, none⟩ : Addr) (Slc.v s66) →
        canW w71 (⟨r2, 1, none⟩ : Addr) 1 ∧ ∀ w72 : World, w72 = World.setCell w71 (⟨r2, 1, none⟩ : Addr) (Slc.v s69) →
        inR .i64 (i6 + (1 : Int)) ∧
        (I4 ((i6 + (1 : Int))) w72 ∧ mu5 ((i6 + (1 : Int))) w72 < mu5 i6 w7))) (
      K (Value.pointer (some (⟨r2, 0, none⟩ : Addr))) w7))

theorem tidewaterref32_New_eq (n1 : Int) (w : World) (K : Value → World → Prop) : tidewaterref32_New n1 w K = denF Tryd.prog callB Tryd.f15 (.two .none (.two .none (.two (.two .none (.one (.loop [(4, (Sh.int .i64))] [7, 8, 9, 10, 11, 12, 13, 14, 15, 16, 17, 18, 19, 20, 21, 22, 23, 24, 25, 26, 27, 28, 29] .none))) .none))) [(Value.int .i64 n1)] w K := by kernel_rfl
theorem tidewaterref32_New_ok (n1 : Int) {w : World} {R : Ending → World → Prop} (h : tidewaterref32_New n1 w fun v w' => R (.returned v) w') : Calls Tryd.prog fn_tidewaterref32_New ⟨[(Value.int .i64 n1)]⟩ w R :=
  calls_of_den callB_ok mixed Tryd.func15 (tidewaterref32_New_eq n1 w _ ▸ h)

/-- (*tidewater/tidewaterref32.Net).has -/
def tidewaterref32_Net_has (t1 : Option Addr) (i2 : Int) (w : World) (K : Value → World → Prop) : Prop :=
  BIf (decide ((0 : Int) ≤ i2)) (
    needSome t1 fun a3 =>
    ∃ s4 : Slc, World.cell? w a3 = some (Slc.v s4) ∧
    K (Value.bool (decide (i2 < ((s4.l : Nat) : Int)))) w) (
    K (Value.bool false) w)

theorem tidewaterref32_Net_has_eq (t1 : Option Addr) (i2 : Int) (w : World) (K : Value → World → Prop) : tidewaterref32_Net_has t1 i2 w K = denF Tryd.prog callB Tryd.f45 .none [(Value.pointer t1), (Value.int .i64 i2)] w K := by kernel_rfl
theorem tidewaterref32_Net_has_ok (t1 : Option Addr) (i2 : Int) {w : World} {R : Ending → World → Prop} (h : tidewaterref32_Net_has t1 i2 w fun v w' => R (.returned v) w') : Calls Tryd.prog fn_tidewaterref32_Net_has ⟨[(Value.pointer t1), (Value.int .i64 i2)]⟩ w R :=
  calls_of_den callB_ok mixed Tryd.func45 (tidewaterref32_Net_has_eq t1 i2 w _ ▸ h)

/-- (*tidewater/tidewaterref32.Net).Waits -/
def tidewaterref32_Net_Waits (t1 : Option Addr) (n2 : Int) (w : World) (K : Value → World → Prop) : Prop :=
  BIf (decide ((0 : Int) ≤ n2)) (
    needSome t1 fun a3 =>
    ∃ s4 : Slc, World.cell? w (a3.add 2) = some (Slc.v s4) ∧
    BIf (decide (n2 < ((s4.l : Nat) : Int))) (
      needSome t1 fun a5 =>
      ∃ s6 : Slc, World.cell? w (a5.add 2) = some (Slc.v s6) ∧
      needSome s6.p fun a7 =>
      0 ≤ n2 ∧ n2 < ((s6.l : Nat) : Int) ∧
      ∃ b8 : Bool, World.cell? w ((Addr.add a7 ((Int.toNat n2) * 4)).add 3) = some (Value.bool b8) ∧
      K (Value.bool (!b8)) w) (
      K (Value.bool false) w)) (
    K (Value.bool false) w)

theorem tidewaterref32_Net_Waits_eq (t1 : Option Addr) (n2 : Int) (w : World) (K : Value → World → Prop) : tidewaterref32_Net_Waits t1 n2 w K = denF Tryd.prog callB Tryd.f47 .none [(Value.pointer t1), (Value.int .i64 n2)] w K := by kernel_rfl
theorem tidewaterref32_Net_Waits_ok (t1 : Option Addr) (n2 : Int) {w : World} {R : Ending → World → Prop} (h : tidewaterref32_Net_Waits t1 n2 w fun v w' => R (.returned v) w') : Calls Tryd.prog fn_tidewaterref32_Net_Waits ⟨[(Value.pointer t1), (Value.int .i64 n2)]⟩ w R :=
  calls_of_den callB_ok mixed Tryd.func47 (tidewaterref32_Net_Waits_eq t1 n2 w _ ▸ h)

/-- (*tidewater/tidewaterref32.Net).many -/
def tidewaterref32_Net_many (t1 : Option Addr) (w : World) (K : Value → World → Prop) : Prop :=
  needSome t1 fun a2 =>
  ∃ s3 : Slc, World.cell? w (a2.add 2) = some (Slc.v s3) ∧
  ∃ (I4 : (Int) → (Int) → World → Prop) (mu5 : (Int) → (Int) → World → Nat), I4 ((0 : Int)) ((0 : Int)) w ∧ (
  ∀ n6 : Int, ∀ i7 : Int, ∀ w8 : World, I4 n6 i7 w8 → ∀ u9 u10 u11 u12 u13 u14 u15 u16 u17 u18 : Value,
    BIf (decide (i7 < ((s3.l : Nat) : Int))) (
      needSome s3.p fun a19 =>
      0 ≤ i7 ∧ i7 < ((s3.l : Nat) : Int) ∧
      ∃ n20 : Int, ∃ n21 : Int, ∃ s22 : Slc, ∃ b23 : Bool, rowAt w8 (Addr.add a19 ((Int.toNat i7) * 4)) 0 [(Value.int .i64 n20), (Value.int .i64 n21), (Slc.v s22), (Value.bool b23)] ∧
      newS w8 (.cells ⟨[(Value.int .i64 (0 : Int)), (Value.int .i64 (0 : Int)), (Slc.v (⟨none, 0, 0⟩ : Slc)), (Value.bool false)]⟩ 75) fun r24 w25 =>
      canW w25 (⟨r24, 0, none⟩ : Addr) 4 ∧ ∀ w26 : World, w26 = setCells w25 (⟨r24, 0, none⟩ : Addr) 0 [(Value.int .i64 n20), (Value.int .i64 n21), (Slc.v s22), (Value.bool b23)] →
      ∃ b27 : Bool, World.cell? w26 (⟨r24, 3, none⟩ : Addr) = some (Value.bool b27) ∧
      BIf (!b27) (
        inR .i64 (n6 + (1 : Int)) ∧
        inR .i64 (i7 + (1 : Int)) ∧
        (I4 ((n6 + (1 : Int))) ((i7 + (1 : Int))) w26 ∧ mu5 ((n6 + (1 : Int))) ((i7 + (1 : Int))) w26 < mu5 n6 i7 w8)) (
        inR .i64 (i7 + (1 : Int)) ∧
        (I4 (n6) ((i7 + (1 : Int))) w26 ∧ mu5 (n6) ((i7 + (1 : Int))) w26 < mu5 n6 i7 w8))) (
      K (Value.int .i64 n6) w8))

theorem tidewaterref32_Net_many_eq (t1 : Option Addr) (w : World) (K : Value → World → Prop) : tidewaterref32_Net_many t1 w K = denF Tryd.prog callB Tryd.f46 (.two .none (.two .none (.two (.two .none (.one (.loop [(3, (Sh.int .i64)), (11, (Sh.int .i64))] [5, 12, 13, 14, 15, 16, 17, 18, 19, 20] .none))) .none))) [(Value.pointer t1)] w K := by kernel_rfl
theorem tidewaterref32_Net_many_ok (t1 : Option Addr) {w : World} {R : Ending → World → Prop} (h : tidewaterref32_Net_many t1 w fun v w' => R (.returned v) w') : Calls Tryd.prog fn_tidewaterref32_Net_many ⟨[(Value.pointer t1)]⟩ w R :=
  calls_of_den callB_ok mixed Tryd.func46 (tidewaterref32_Net_many_eq t1 w _ ▸ h)

/-- (*tidewater/tidewaterref32.Net).Reach -/
def tidewaterref32_Net_Reach (t1 : Option Addr) (a2 : Int) (b3 : Int) (w : World) (K : Value → World → Prop) : Prop :=
  Calls Tryd.prog fn_tidewaterref32_Net_has ⟨[(Value.pointer t1), (Value.int .i64 a2)]⟩ (World.drew w) fun e4 w5 =>
  ∃ b6 : Bool, e4 = .returned (Value.bool b6) ∧
  BIf b6 (
    Calls Tryd.prog fn_tidewaterref32_Net_has ⟨[(Value.pointer t1), (Value.int .i64 b3)]⟩ w5 fun e7 w8 =>
    ∃ b9 : Bool, e7 = .returned (Value.bool b9) ∧
    BIf b9 (
      needSome t1 fun a10 =>
      ∃ s11 : Slc, World.cell? w8 a10 = some (Slc.v s11) ∧
      needSome s11.p fun a12 =>
      0 ≤ a2 ∧ a2 < ((s11.l : Nat) : Int) ∧
      ∃ b13 : Bool, World.cell? w8 (Addr.add a12 ((Int.toNat a2) * 1)) = some (Value.bool b13) ∧
      BIf b13 (
        needSome t1 fun a14 =>
        ∃ s15 : Slc, World.cell? w8 a14 = some (Slc.v s15) ∧
        needSome s15.p fun a16 =>
        0 ≤ b3 ∧ b3 < ((s15.l : Nat) : Int) ∧
        ∃ b17 : Bool, World.cell? w8 (Addr.add a16 ((Int.toNat b3) * 1)) = some (Value.bool b17) ∧
        BIf b17 (
          needSome t1 fun a18 =>
          ∃ s19 : Slc, World.cell? w8 (a18.add 1) = some (Slc.v s19) ∧
          needSome s19.p fun a20 =>
          0 ≤ a2 ∧ a2 < ((s19.l : Nat) : Int) ∧
          ∃ b21 : Bool, World.cell? w8 (Addr.add a20 ((Int.toNat a2) * 1)) = some (Value.bool b21) ∧
          needSome t1 fun a22 =>
          ∃ s23 : Slc, World.cell? w8 (a22.add 1) = some (Slc.v s23) ∧
          needSome s23.p fun a24 =>
          0 ≤ b3 ∧ b3 < ((s23.l : Nat) : Int) ∧
          ∃ b25 : Bool, World.cell? w8 (Addr.add a24 ((Int.toNat b3) * 1)) = some (Value.bool b25) ∧
          K (Value.bool (b21 == b25)) w8) (
          K (Value.bool false) w8)) (
        K (Value.bool false) w8)) (
      K (Value.bool false) w8)) (
    K (Value.bool false) w5)

theorem tidewaterref32_Net_Reach_eq (t1 : Option Addr) (a2 : Int) (b3 : Int) (w : World) (K : Value → World → Prop) : tidewaterref32_Net_Reach t1 a2 b3 w K = denF Tryd.prog callB Tryd.f37 .none [(Value.pointer t1), (Value.int .i64 a2), (Value.int .i64 b3)] w K := by kernel_rfl
theorem tidewaterref32_Net_Reach_ok (t1 : Option Addr) (a2 : Int) (b3 : Int) {w : World} {R : Ending → World → Prop} (h : tidewaterref32_Net_Reach t1 a2 b3 w fun v w' => R (.returned v) w') : Calls Tryd.prog fn_tidewaterref32_Net_Reach ⟨[(Value.pointer t1), (Value.int .i64 a2), (Value.int .i64 b3)]⟩ w R :=
  calls_of_den callB_ok mixed Tryd.func37 (tidewaterref32_Net_Reach_eq t1 a2 b3 w _ ▸ h)

/-- (*tidewater/tidewaterref32.Net).Send -/
def tidewaterref32_Net_Send (t1 : Option Addr) (from2 : Int) (to3 : Int) (b4 : Slc) (w : World) (K : Value → World → Prop) : Prop :=
  ∃ J5 : World → Prop,
  (
    Calls Tryd.prog fn_tidewaterref32_Net_has ⟨[(Value.pointer t1), (Value.int .i64 from2)]⟩ w fun e6 w7 =>
    ∃ b8 : Bool, e6 = .returned (Value.bool b8) ∧
    BIf (!b8) (
      K (Value.tuple ⟨[(Value.int .i64 (0 : Int)), (Value.int .i64 (1 : Int))]⟩) w7) (
      Calls Tryd.prog fn_tidewaterref32_Net_has ⟨[(Value.pointer t1), (Value.int .i64 to3)]⟩ w7 fun e9 w10 =>
      ∃ b11 : Bool, e9 = .returned (Value.bool b11) ∧
      BIf (!b11) (
        K (Value.tuple ⟨[(Value.int .i64 (0 : Int)), (Value.int .i64 (1 : Int))]⟩) w10) (
        J5 w10))) ∧ (
  ∀ w12 : World, J5 w12 → ∀ u13 u14 u15 u16 u17 u18 u19 u20 u21 u22 u23 u24 : Value,
    BIf (decide ((4096 : Int) < ((b4.l : Nat) : Int))) (
      K (Value.tuple ⟨[(Value.int .i64 (0 : Int)), (Value.int .i64 (3 : Int))]⟩) w12) (
      needSome t1 fun a25 =>
      ∃ s26 : Slc, World.cell? w12 a25 = some (Slc.v s26) ∧
      needSome s26.p fun a27 =>
      0 ≤ from2 ∧ from2 < ((s26.l : Nat) : Int) ∧
      ∃ b28 : Bool, World.cell? w12 (Addr.add a27 ((Int.toNat from2) * 1)) = some (Value.bool b28) ∧
      BIf (!b28) (
        K (Value.tuple ⟨[(Value.int .i64 (0 : Int)), (Value.int .i64 (12 : Int))]⟩) w12) (
        Calls Tryd.prog fn_tidewaterref32_Net_many ⟨[(Value.pointer t1)]⟩ w12 fun e29 w30 =>
        ∃ n31 : Int, e29 = .returned (Value.int .i64 n31) ∧
        BIf (decide ((4096 : Int) ≤ n31)) (
          K (Value.tuple ⟨[(Value.int .i64 (0 : Int)), (Value.int .i64 (13 : Int))]⟩) w30) (
          needSome t1 fun a32 =>
          ∃ s33 : Slc, World.cell? (World.drew w30) (a32.add 2) = some (Slc.v s33) ∧
          newS (World.drew w30) (.cells ⟨[]⟩ 5) fun r34 w35 =>
          (∃ s36 : Slc, World.cell? w35 (a32.add 2) = some (Slc.v s36) ∧
          (Slc.v s36) = (Slc.v s33)) ∧
          appendS 1 5 [(Value.int .u8 (0 : Int))] w35 (⟨(some (⟨r34, 0, none⟩ : Addr)), 0, 0⟩ : Slc) (.slc b4) fun s37 w38 =>
          (∃ s39 : Slc, World.cell? w38 (a32.add 2) = some (Slc.v s39) ∧
          (Slc.v s39) = (Slc.v s33)) ∧
          newS w38 (.cells ⟨[(Value.int .i64 from2), (Value.int .i64 to3), (Slc.v s37), (Value.bool false)]⟩ 75) fun r40 w41 =>
          (∃ s42 : Slc, World.cell? w41 (a32.add 2) = some (Slc.v s42) ∧
          (Slc.v s42) = (Slc.v s33)) ∧
          appendS 4 75 [(Value.int .i64 (0 : Int)), (Value.int .i64 (0 : Int)), (Slc.v (⟨none, 0, 0⟩ : Slc)), (Value.bool false)] w41 s33 (.slc (⟨(some (⟨r40, 0, none⟩ : Addr)), 1, 1⟩ : Slc)) fun s43 w44 =>
          needSome t1 fun a45 =>
          canW w44 (a45.add 2) 1 ∧ ∀ w46 : World, w46 = World.setCell w44 (a45.add 2) (Slc.v s43) →
          needSome t1 fun a47 =>
          ∃ s48 : Slc, World.cell? w46 (a47.add 2) = some (Slc.v s48) ∧
          inR .i64 (((s48.l : Nat) : Int) - (1 : Int)) ∧
          K (Value.tuple ⟨[(Value.int .i64 (((s48.l : Nat) : Int) - (1 : Int))), (Value.int .i64 (0 : Int))]⟩) w46))))

theorem tidewaterref32_Net_Send_eq (t1 : Option Addr) (from2 : Int) (to3 : Int) (b4 : Slc) (w : World) (K : Value → World → Prop) : tidewaterref32_Net_Send t1 from2 to3 b4 w K = denF Tryd.prog callB Tryd.f30 (.two .none (.cut [] [8, 9, 10, 11, 12, 13, 14, 15, 16, 17, 18, 19] .none .none)) [(Value.pointer t1), (Value.int .i64 from2), (Value.int .i64 to3), (Slc.v b4)] w K := by kernel_rfl
theorem tidewaterref32_Net_Send_ok (t1 : Option Addr) (from2 : Int) (to3 : Int) (b4 : Slc) {w : World} {R : Ending → World → Prop} (h : tidewaterref32_Net_Send t1 from2 to3 b4 w fun v w' => R (.returned v) w') : Calls Tryd.prog fn_tidewaterref32_Net_Send ⟨[(Value.pointer t1), (Value.int .i64 from2), (Value.int .i64 to3), (Slc.v b4)]⟩ w R :=
  calls_of_den callB_ok mixed Tryd.func30 (tidewaterref32_Net_Send_eq t1 from2 to3 b4 w _ ▸ h)

/-- (*tidewater/tidewaterref32.Net).Double -/
def tidewaterref32_Net_Double (t1 : Option Addr) (n2 : Int) (w : World) (K : Value → World → Prop) : Prop :=
  Calls Tryd.prog fn_tidewaterref32_Net_Waits ⟨[(Value.pointer t1), (Value.int .i64 n2)]⟩ w fun e3 w4 =>
  ∃ b5 : Bool, e3 = .returned (Value.bool b5) ∧
  BIf (!b5) (
    K (Value.tuple ⟨[(Value.int .i64 (0 : Int)), (Value.int .i64 (16 : Int))]⟩) w4) (
    Calls Tryd.prog fn_tidewaterref32_Net_many ⟨[(Value.pointer t1)]⟩ w4 fun e6 w7 =>
    ∃ n8 : Int, e6 = .returned (Value.int .i64 n8) ∧
    BIf (decide ((4096 : Int) ≤ n8)) (
      K (Value.tuple ⟨[(Value.int .i64 (0 : Int)), (Value.int .i64 (13 : Int))]⟩) w7) (
      needSome t1 fun a9 =>
      ∃ s10 : Slc, World.cell? (World.drew w7) (a9.add 2) = some (Slc.v s10) ∧
      needSome t1 fun a11 =>
      ∃ s12 : Slc, World.cell? (World.drew w7) (a11.add 2) = some (Slc.v s12) ∧
      needSome s12.p fun a13 =>
      0 ≤ n2 ∧ n2 < ((s12.l : Nat) : Int) ∧
      ∃ n14 : Int, ∃ n15 : Int, ∃ s16 : Slc, ∃ b17 : Bool, rowAt (World.drew w7) (Addr.add a13 ((Int.toNat n2) * 4)) 0 [(Value.int .i64 n14), (Value.int .i64 n15), (Slc.v s16), (Value.bool b17)] ∧
      newS (World.drew w7) (.cells ⟨[(Value.int .i64 n14), (Value.int .i64 n15), (Slc.v s16), (Value.bool b17)]⟩ 75) fun r18 w19 =>
      (∃ s20 : Slc, World.cell? w19 (a9.add 2) = some (Slc.v s20) ∧
      (Slc.v s20) = (Slc.v s10)) ∧
      appendS 4 75 [(Value.int .i64 (0 : Int)), (Value.int .i64 (0 : Int)), (Slc.v (⟨none, 0, 0⟩ : Slc)), (Value.bool false)] w19 s10 (.slc (⟨(some (⟨r18, 0, none⟩ : Addr)), 1, 1⟩ : Slc)) fun s21 w22 =>
      needSome t1 fun a23 =>
      canW w22 (a23.add 2) 1 ∧ ∀ w24 : World, w24 = World.setCell w22 (a23.add 2) (Slc.v s21) →
      needSome t1 fun a25 =>
      ∃ s26 : Slc, World.cell? w24 (a25.add 2) = some (Slc.v s26) ∧
      inR .i64 (((s26.l : Nat) : Int) - (1 : Int)) ∧
      K (Value.tuple ⟨[(Value.int .i64 (((s26.l : Nat) : Int) - (1 : Int))), (Value.int .i64 (0 : Int))]⟩) w24))

theorem tidewaterref32_Net_Double_eq (t1 : Option Addr) (n2 : Int) (w : World) (K : Value → World → Prop) : tidewaterref32_Net_Double t1 n2 w K = denF Tryd.prog callB Tryd.f33 .none [(Value.pointer t1), (Value.int .i64 n2)] w K := by kernel_rfl
theorem tidewaterref32_Net_Double_ok (t1 : Option Addr) (n2 : Int) {w : World} {R : Ending → World → Prop} (h : tidewaterref32_Net_Double t1 n2 w fun v w' => R (.returned v) w') : Calls Tryd.prog fn_tidewaterref32_Net_Double ⟨[(Value.pointer t1), (Value.int .i64 n2)]⟩ w R :=
  calls_of_den callB_ok mixed Tryd.func33 (tidewaterref32_Net_Double_eq t1 n2 w _ ▸ h)

/-- (*tidewater/tidewaterref32.Net).Deliver -/
def tidewaterref32_Net_Deliver (t1 : Option Addr) (n2 : Int) (w : World) (K : Value → World → Prop) : Prop :=
  Calls Tryd.prog fn_tidewaterref32_Net_Waits ⟨[(Value.pointer t1), (Value.int .i64 n2)]⟩ w fun e3 w4 =>
  ∃ b5 : Bool, e3 = .returned (Value.bool b5) ∧
  BIf (!b5) (
    K (Value.int .i64 (16 : Int)) w4) (
    needSome t1 fun a6 =>
    ∃ s7 : Slc, World.cell? (World.drew w4) (a6.add 2) = some (Slc.v s7) ∧
    needSome s7.p fun a8 =>
    0 ≤ n2 ∧ n2 < ((s7.l : Nat) : Int) ∧
    ∃ n9 : Int, World.cell? (World.drew w4) (Addr.add a8 ((Int.toNat n2) * 4)) = some (Value.int .i64 n9) ∧
    needSome t1 fun a10 =>
    ∃ s11 : Slc, World.cell? (World.drew w4) (a10.add 2) = some (Slc.v s11) ∧
    needSome s11.p fun a12 =>
    0 ≤ n2 ∧ n2 < ((s11.l : Nat) : Int) ∧
    ∃ n13 : Int, World.cell? (World.drew w4) ((Addr.add a12 ((Int.toNat n2) * 4)).add 1) = some (Value.int .i64 n13) ∧
    Calls Tryd.prog fn_tidewaterref32_Net_Reach ⟨[(Value.pointer t1), (Value.int .i64 n9), (Value.int .i64 n13)]⟩ (World.drew w4) fun e14 w15 =>
    ∃ b16 : Bool, e14 = .returned (Value.bool b16) ∧
    BIf (!b16) (
      K (Value.int .i64 (12 : Int)) w15) (
      needSome t1 fun a17 =>
      ∃ s18 : Slc, World.cell? w15 (a17.add 2) = some (Slc.v s18) ∧
      needSome s18.p fun a19 =>
      0 ≤ n2 ∧ n2 < ((s18.l : Nat) : Int) ∧
      canW w15 ((Addr.add a19 ((Int.toNat n2) * 4)).add 3) 1 ∧ ∀ w20 : World, w20 = World.setCell w15 ((Addr.add a19 ((Int.toNat n2) * 4)).add 3) (Value.bool true) →
      K (Value.int .i64 (0 : Int)) w20))

theorem tidewaterref32_Net_Deliver_eq (t1 : Option Addr) (n2 : Int) (w : World) (K : Value → World → Prop) : tidewaterref32_Net_Deliver t1 n2 w K = denF Tryd.prog callB Tryd.f31 .none [(Value.pointer t1), (Value.int .i64 n2)] w K := by kernel_rfl
theorem tidewaterref32_Net_Deliver_ok (t1 : Option Addr) (n2 : Int) {w : World} {R : Ending → World → Prop} (h : tidewaterref32_Net_Deliver t1 n2 w fun v w' => R (.returned v) w') : Calls Tryd.prog fn_tidewaterref32_Net_Deliver ⟨[(Value.pointer t1), (Value.int .i64 n2)]⟩ w R :=
  calls_of_den callB_ok mixed Tryd.func31 (tidewaterref32_Net_Deliver_eq t1 n2 w _ ▸ h)

/-- (*tidewater/tidewaterref32.Net).Drop -/
def tidewaterref32_Net_Drop (t1 : Option Addr) (n2 : Int) (w : World) (K : Value → World → Prop) : Prop :=
  Calls Tryd.prog fn_tidewaterref32_Net_Waits ⟨[(Value.pointer t1), (Value.int .i64 n2)]⟩ w fun e3 w4 =>
  ∃ b5 : Bool, e3 = .returned (Value.bool b5) ∧
  BIf (!b5) (
    K (Value.int .i64 (16 : Int)) w4) (
    needSome t1 fun a6 =>
    ∃ s7 : Slc, World.cell? w4 (a6.add 2) = some (Slc.v s7) ∧
    needSome s7.p fun a8 =>
    0 ≤ n2 ∧ n2 < ((s7.l : Nat) : Int) ∧
    canW w4 ((Addr.add a8 ((Int.toNat n2) * 4)).add 3) 1 ∧ ∀ w9 : World, w9 = World.setCell w4 ((Addr.add a8 ((Int.toNat n2) * 4)).add 3) (Value.bool true) →
    K (Value.int .i64 (0 : Int)) w9)

theorem tidewaterref32_Net_Drop_eq (t1 : Option Addr) (n2 : Int) (w : World) (K : Value → World → Prop) : tidewaterref32_Net_Drop t1 n2 w K = denF Tryd.prog callB Tryd.f32 .none [(Value.pointer t1), (Value.int .i64 n2)] w K := by kernel_rfl
theorem tidewaterref32_Net_Drop_ok (t1 : Option Addr) (n2 : Int) {w : World} {R : Ending → World → Prop} (h : tidewaterref32_Net_Drop t1 n2 w fun v w' => R (.returned v) w') : Calls Tryd.prog fn_tidewaterref32_Net_Drop ⟨[(Value.pointer t1), (Value.int .i64 n2)]⟩ w R :=
  calls_of_den callB_ok mixed Tryd.func32 (tidewaterref32_Net_Drop_eq t1 n2 w _ ▸ h)

/-- (*tidewater/tidewaterref32.Net).First -/
def tidewaterref32_Net_First (t1 : Option Addr) (to2 : Int) (w : World) (K : Value → World → Prop) : Prop :=
  needSome t1 fun a3 =>
  ∃ s4 : Slc, World.cell? w (a3.add 2) = some (Slc.v s4) ∧
  ∃ (I5 : (Int) → World → Prop) (mu6 : (Int) → World → Nat), I5 ((0 : Int)) w ∧ (
  ∀ i7 : Int, ∀ w8 : World, I5 i7 w8 → ∀ u9 u10 u11 u12 u13 u14 u15 u16 u17 u18 u19 u20 u21 u22 u23 u24 u25 u26 u27 u28 u29 u30 u31 u32 u33 u34 : Value,
    BIf (decide (i7 < ((s4.l : Nat) : Int))) (
      needSome s4.p fun a35 =>
      0 ≤ i7 ∧ i7 < ((s4.l : Nat) : Int) ∧
      ∃ n36 : Int, ∃ n37 : Int, ∃ s38 : Slc, ∃ b39 : Bool, rowAt w8 (Addr.add a35 ((Int.toNat i7) * 4)) 0 [(Value.int .i64 n36), (Value.int .i64 n37), (Slc.v s38), (Value.bool b39)] ∧
      newS w8 (.cells ⟨[(Value.int .i64 (0 : Int)), (Value.int .i64 (0 : Int)), (Slc.v (⟨none, 0, 0⟩ : Slc)), (Value.bool false)]⟩ 75) fun r40 w41 =>
      canW w41 (⟨r40, 0, none⟩ : Addr) 4 ∧ ∀ w42 : World, w42 = setCells w41 (⟨r40, 0, none⟩ : Addr) 0 [(Value.int .i64 n36), (Value.int .i64 n37), (Slc.v s38), (Value.bool b39)] →
      ∃ b43 : Bool, World.cell? w42 (⟨r40, 3, none⟩ : Addr) = some (Value.bool b43) ∧
      BIf (!b43) (
        ∃ n44 : Int, World.cell? w42 (⟨r40, 1, none⟩ : Addr) = some (Value.int .i64 n44) ∧
        BIf (decide (n44 = to2)) (
          ∃ n45 : Int, World.cell? w42 (⟨r40, 0, none⟩ : Addr) = some (Value.int .i64 n45) ∧
          ∃ n46 : Int, World.cell? w42 (⟨r40, 1, none⟩ : Addr) = some (Value.int .i64 n46) ∧
          Calls Tryd.prog fn_tidewaterref32_Net_Reach ⟨[(Value.pointer t1), (Value.int .i64 n45), (Value.int .i64 n46)]⟩ w42 fun e47 w48 =>
          ∃ b49 : Bool, e47 = .returned (Value.bool b49) ∧
          BIf b49 (
            K (Value.int .i64 i7) w48) (
            inR .i64 (i7 + (1 : Int)) ∧
            (I5 ((i7 + (1 : Int))) w48 ∧ mu6 ((i7 + (1 : Int))) w48 < mu6 i7 w8))) (
          inR .i64 (i7 + (1 : Int)) ∧
          (I5 ((i7 + (1 : Int))) w42 ∧ mu6 ((i7 + (1 : Int))) w42 < mu6 i7 w8))) (
        inR .i64 (i7 + (1 : Int)) ∧
        (I5 ((i7 + (1 : Int))) w42 ∧ mu6 ((i7 + (1 : Int))) w42 < mu6 i7 w8))) (
      K (Value.int .i64 (-1 : Int)) w8))

theorem tidewaterref32_Net_First_eq (t1 : Option Addr) (to2 : Int) (w : World) (K : Value → World → Prop) : tidewaterref32_Net_First t1 to2 w K = denF Tryd.prog callB Tryd.f36 (.two .none (.two (.two .none (.one (.loop [(12, (Sh.int .i64))] [4, 5, 6, 13, 14, 15, 16, 17, 18, 19, 20, 21, 22, 23, 24, 25, 26, 27, 28, 29, 30, 31, 32, 33, 34, 35] .none))) .none)) [(Value.pointer t1), (Value.int .i64 to2)] w K := by kernel_rfl
theorem tidewaterref32_Net_First_ok (t1 : Option Addr) (to2 : Int) {w : World} {R : Ending → World → Prop} (h : tidewaterref32_Net_First t1 to2 w fun v w' => R (.returned v) w') : Calls Tryd.prog fn_tidewaterref32_Net_First ⟨[(Value.pointer t1), (Value.int .i64 to2)]⟩ w R :=
  calls_of_den callB_ok mixed Tryd.func36 (tidewaterref32_Net_First_eq t1 to2 w _ ▸ h)

/-- tidewater/tidewaterlaw32.alive -/
def tidewaterlaw32_alive  (w : World) (K : Value → World → Prop) : Prop :=
  Calls Tryd.prog fn_net_New ⟨[(Value.int .i64 (2 : Int))]⟩ w fun e1 w2 =>
  ∃ p3 : Option Addr, ∃ e4 : Value, e1 = .returned (Value.tuple ⟨[(Value.pointer p3), e4]⟩) ∧
  ∃ J5 : World → Prop,
  (
    isI e4 ∧
    BIf (!isNilI e4) (
      K (Value.bool false) w2) (
      BIf (Option.isNone (p3 : Option Addr)) (
        K (Value.bool false) w2) (
        J5 w2))) ∧ (
  ∀ w6 : World, J5 w6 → ∀ u7 u8 u9 u10 u11 u12 u13 : Value,
    Calls Tryd.prog fn_net_Net_Set ⟨[(Value.pointer p3), (Value.int .i64 (1 : Int)), (Value.bool false)]⟩ w6 fun e14 w15 =>
    e14 = .returned (Value.tuple #[]) ∧
    newS w15 (.cells ⟨[(Value.int .u8 (97 : Int))]⟩ 5) fun r16 w17 =>
    ∀ w19 : World, w19 = markW w17 r16 →
    Calls Tryd.prog fn_net_Net_Send ⟨[(Value.pointer p3), (Value.int .i64 (0 : Int)), (Value.int .i64 (1 : Int)), (Slc.v (⟨(some (⟨r16, 0, none⟩ : Addr)), 1, 1⟩ : Slc))]⟩ w19 fun e20 w21 =>
    ∃ n22 : Int, ∃ e23 : Value, e20 = .returned (Value.tuple ⟨[(Value.int .i64 n22), e23]⟩) ∧
    Calls Tryd.prog fn_net_Net_Deliver ⟨[(Value.pointer p3), (Value.int .i64 n22)]⟩ w21 fun e24 w25 =>
    ∃ x26 : Int, ∃ x27 : Int, ∃ x28 : Int, ∃ x29 : Slc, ∃ e30 : Value, e24 = .returned (Value.tuple ⟨[(Value.agg ⟨[(Value.int .i64 x26), (Value.int .i64 x27), (Value.int .i64 x28), (Slc.v x29)]⟩), e30]⟩) ∧
    newS w25 (.cells ⟨[(Value.int .i64 (0 : Int)), (Value.int .i64 (0 : Int)), (Value.int .i64 (0 : Int)), (Slc.v (⟨none, 0, 0⟩ : Slc))]⟩ 38) fun r31 w32 =>
    canW w32 (⟨r31, 0, none⟩ : Addr) 4 ∧ ∀ w33 : World, w33 = setCells w32 (⟨r31, 0, none⟩ : Addr) 0 [(Value.int .i64 x26), (Value.int .i64 x27), (Value.int .i64 x28), (Slc.v x29)] →
    isI e23 ∧
    BIf (isNilI e23) (
      BIf (decide (n22 = (0 : Int))) (
        Calls Tryd.prog fn_tidewaternum_Num ⟨[e30]⟩ w33 fun e34 w35 =>
        ∃ n36 : Int, e34 = .returned (Value.int .i64 n36) ∧
        BIf (decide (n36 = (12 : Int))) (
          Calls Tryd.prog fn_net_Net_Waiting ⟨[(Value.pointer p3)]⟩ w35 fun e37 w38 =>
          ∃ s39 : Slc, e37 = .returned (Slc.v s39) ∧
          K (Value.bool (decide (((s39.l : Nat) : Int) = (1 : Int)))) w38) (
          K (Value.bool false) w35)) (
        K (Value.bool false) w33)) (
      K (Value.bool false) w33))

theorem tidewaterlaw32_alive_eq  (w : World) (K : Value → World → Prop) : tidewaterlaw32_alive  w K = denF Tryd.prog callB Tryd.f6 (.two .none (.two .none (.cut [] [0, 10, 11, 12, 13, 14, 15] .none .none))) [] w K := by kernel_rfl
theorem tidewaterlaw32_alive_ok  {w : World} {R : Ending → World → Prop} (h : tidewaterlaw32_alive  w fun v w' => R (.returned v) w') : Calls Tryd.prog fn_tidewaterlaw32_alive ⟨[]⟩ w R :=
  calls_of_den callB_ok mixed Tryd.func6 (tidewaterlaw32_alive_eq  w _ ▸ h)

/-- tidewater/tidewaterlaw32.long -/
def tidewaterlaw32_long (list1 : Slc) (w : World) (K : Value → World → Prop) : Prop :=
  BIf (decide ((80 : Int) < ((list1.l : Nat) : Int))) (
    K (Value.bool true) w) (
    ∃ (I2 : (Int) → World → Prop) (mu3 : (Int) → World → Nat), I2 ((0 : Int)) w ∧ (
    ∀ i4 : Int, ∀ w5 : World, I2 i4 w5 → ∀ u6 u7 u8 u9 u10 u11 u12 u13 u14 u15 u16 u17 u18 u19 u20 u21 : Value,
      BIf (decide (i4 < ((list1.l : Nat) : Int))) (
        needSome list1.p fun a22 =>
        0 ≤ i4 ∧ i4 < ((list1.l : Nat) : Int) ∧
        ∃ n23 : Int, ∃ n24 : Int, ∃ n25 : Int, ∃ s26 : Slc, ∃ s27 : Slc, rowAt w5 (Addr.add a22 ((Int.toNat i4) * 5)) 0 [(Value.int .i64 n23), (Value.int .i64 n24), (Value.int .i64 n25), (Slc.v s26), (Slc.v s27)] ∧
        newS w5 (.cells ⟨[(Value.int .i64 (0 : Int)), (Value.int .i64 (0 : Int)), (Value.int .i64 (0 : Int)), (Slc.v (⟨none, 0, 0⟩ : Slc)), (Slc.v (⟨none, 0, 0⟩ : Slc))]⟩ 34) fun r28 w29 =>
        canW w29 (⟨r28, 0, none⟩ : Addr) 5 ∧ ∀ w30 : World, w30 = setCells w29 (⟨r28, 0, none⟩ : Addr) 0 [(Value.int .i64 n23), (Value.int .i64 n24), (Value.int .i64 n25), (Slc.v s26), (Slc.v s27)] →
        ∃ s31 : Slc, World.cell? w30 (⟨r28, 3, none⟩ : Addr) = some (Slc.v s31) ∧
        BIf (decide ((5000 : Int) < ((s31.l : Nat) : Int))) (
          K (Value.bool true) w30) (
          ∃ s32 : Slc, World.cell? w30 (⟨r28, 4, none⟩ : Addr) = some (Slc.v s32) ∧
          BIf (decide ((30 : Int) < ((s32.l : Nat) : Int))) (
            K (Value.bool true) w30) (
            inR .i64 (i4 + (1 : Int)) ∧
            (I2 ((i4 + (1 : Int))) w30 ∧ mu3 ((i4 + (1 : Int))) w30 < mu3 i4 w5)))) (
        K (Value.bool false) w5)))

theorem tidewaterlaw32_long_eq (list1 : Slc) (w : World) (K : Value → World → Prop) : tidewaterlaw32_long list1 w K = denF Tryd.prog callB Tryd.f7 (.two .none (.two .none (.two (.two .none (.one (.loop [(10, (Sh.int .i64))] [2, 4, 11, 12, 13, 14, 15, 16, 17, 18, 19, 20, 21, 22, 23, 24] .none))) .none))) [(Slc.v list1)] w K := by kernel_rfl
theorem tidewaterlaw32_long_ok (list1 : Slc) {w : World} {R : Ending → World → Prop} (h : tidewaterlaw32_long list1 w fun v w' => R (.returned v) w') : Calls Tryd.prog fn_tidewaterlaw32_long ⟨[(Slc.v list1)]⟩ w R :=
  calls_of_den callB_ok mixed Tryd.func7 (tidewaterlaw32_long_eq list1 w _ ▸ h)

/-- tidewater/tidewaterlaw32.same -/
def tidewaterlaw32_same (t1 : Option Addr) (w2 : Option Addr) (nodes3 : Int) (w : World) (K : Value → World → Prop) : Prop :=
  Calls Tryd.prog fn_net_Net_Waiting ⟨[(Value.pointer t1)]⟩ w fun e4 w5 =>
  ∃ s6 : Slc, e4 = .returned (Slc.v s6) ∧
  needSome w2 fun a7 =>
  ∃ s8 : Slc, World.cell? w5 (a7.add 2) = some (Slc.v s8) ∧
  ∃ (I9 : (Int) → (Int) → World → Prop) (mu10 : (Int) → (Int) → World → Nat), I9 ((0 : Int)) ((0 : Int)) w5 ∧ (
  ∀ k11 : Int, ∀ i12 : Int, ∀ w13 : World, I9 k11 i12 w13 → ∀ u14 u15 u16 u17 u18 u19 u20 u21 u22 u23 u24 u25 u26 u27 u28 u29 u30 u31 u32 u33 u34 u35 u36 u37 u38 u39 u40 u41 u42 u43 u44 u45 u46 u47 u48 u49 u50 u51 u52 u53 u54 u55 u56 u57 u58 u59 u60 u61 u62 u63 u64 u65 u66 u67 u68 u69 u70 : Value,
    BIf (decide (i12 < ((s8.l : Nat) : Int))) (
      needSome s8.p fun a71 =>
      0 ≤ i12 ∧ i12 < ((s8.l : Nat) : Int) ∧
      ∃ n72 : Int, ∃ n73 : Int, ∃ s74 : Slc, ∃ b75 : Bool, rowAt w13 (Addr.add a71 ((Int.toNat i12) * 4)) 0 [(Value.int .i64 n72), (Value.int .i64 n73), (Slc.v s74), (Value.bool b75)] ∧
      newS w13 (.cells ⟨[(Value.int .i64 (0 : Int)), (Value.int .i64 (0 : Int)), (Slc.v (⟨none, 0, 0⟩ : Slc)), (Value.bool false)]⟩ 75) fun r76 w77 =>
      canW w77 (⟨r76, 0, none⟩ : Addr) 4 ∧ ∀ w78 : World, w78 = setCells w77 (⟨r76, 0, none⟩ : Addr) 0 [(Value.int .i64 n72), (Value.int .i64 n73), (Slc.v s74), (Value.bool b75)] →
      ∃ b79 : Bool, World.cell? w78 (⟨r76, 3, none⟩ : Addr) = some (Value.bool b79) ∧
      BIf b79 (
        inR .i64 (i12 + (1 : Int)) ∧
        (I9 (k11) ((i12 + (1 : Int))) w78 ∧ mu10 (k11) ((i12 + (1 : Int))) w78 < mu10 k11 i12 w13)) (
        BIf (decide (((s6.l : Nat) : Int) ≤ k11)) (
          K (Value.bool false) (World.drew w78)) (
          needSome s6.p fun a80 =>
          0 ≤ k11 ∧ k11 < ((s6.l : Nat) : Int) ∧
          ∃ n81 : Int, World.cell? (World.drew w78) (Addr.add a80 ((Int.toNat k11) * 4)) = some (Value.int .i64 n81) ∧
          BIf (!decide (n81 = i12)) (
            K (Value.bool false) (World.drew w78)) (
            needSome s6.p fun a82 =>
            0 ≤ k11 ∧ k11 < ((s6.l : Nat) : Int) ∧
            ∃ n83 : Int, World.cell? (World.drew w78) ((Addr.add a82 ((Int.toNat k11) * 4)).add 1) = some (Value.int .i64 n83) ∧
            ∃ n84 : Int, World.cell? (World.drew w78) (⟨r76, 0, none⟩ : Addr) = some (Value.int .i64 n84) ∧
            BIf (!decide (n83 = n84)) (
              K (Value.bool false) (World.drew w78)) (
              needSome s6.p fun a85 =>
              0 ≤ k11 ∧ k11 < ((s6.l : Nat) : Int) ∧
              ∃ n86 : Int, World.cell? (World.drew w78) ((Addr.add a85 ((Int.toNat k11) * 4)).add 2) = some (Value.int .i64 n86) ∧
              ∃ n87 : Int, World.cell? (World.drew w78) (⟨r76, 1, none⟩ : Addr) = some (Value.int .i64 n87) ∧
              BIf (!decide (n86 = n87)) (
                K (Value.bool false) (World.drew w78)) (
                needSome s6.p fun a88 =>
                0 ≤ k11 ∧ k11 < ((s6.l : Nat) : Int) ∧
                ∃ s89 : Slc, World.cell? (World.drew w78) ((Addr.add a88 ((Int.toNat k11) * 4)).add 3) = some (Slc.v s89) ∧
                ∃ t90 : List UInt8, bytesAt (World.drew w78) s89 t90 ∧
                ∃ s91 : Slc, World.cell? (World.drew w78) (⟨r76, 2, none⟩ : Addr) = some (Slc.v s91) ∧
                ∃ t92 : List UInt8, bytesAt (World.drew w78) s91 t92 ∧
                BIf (!decide (t90 = t92)) (
                  K (Value.bool false) (World.drew w78)) (
                  inR .i64 (k11 + (1 : Int)) ∧
                  inR .i64 (i12 + (1 : Int)) ∧
                  (I9 ((k11 + (1 : Int))) ((i12 + (1 : Int))) (World.drew w78) ∧ mu10 ((k11 + (1 : Int))) ((i12 + (1 : Int))) (World.drew w78) < mu10 k11 i12 w13)))))))) (
      ∃ (I93 : (Int) → World → Prop) (mu94 : (Int) → World → Nat), I93 ((-1 : Int)) w13 ∧ (
      ∀ i95 : Int, ∀ w96 : World, I93 i95 w96 → ∀ u97 u98 u99 u100 u101 u102 u103 u104 u105 u106 u107 u108 u109 u110 u111 u112 u113 u114 u115 u116 u117 u118 u119 u120 u121 u122 u123 u124 : Value,
        BIf (decide (i95 ≤ nodes3)) (
          Calls Tryd.prog fn_net_Net_First ⟨[(Value.pointer t1), (Value.int .i64 i95)]⟩ w96 fun e125 w126 =>
          ∃ n127 : Int, e125 = .returned (Value.int .i64 n127) ∧
          Calls Tryd.prog fn_tidewaterref32_Net_First ⟨[(Value.pointer w2), (Value.int .i64 i95)]⟩ w126 fun e128 w129 =>
          ∃ n130 : Int, e128 = .returned (Value.int .i64 n130) ∧
          BIf (!decide (n127 = n130)) (
            K (Value.bool false) w129) (
            ∃ (I131 : (Int) → World → Prop) (mu132 : (Int) → World → Nat), I131 ((-1 : Int)) w129 ∧ (
            ∀ j133 : Int, ∀ w134 : World, I131 j133 w134 → ∀ u135 u136 u137 u138 u139 u140 u141 u142 u143 u144 u145 u146 u147 u148 u149 : Value,
              BIf (decide (j133 ≤ nodes3)) (
                Calls Tryd.prog fn_net_Net_Reach ⟨[(Value.pointer t1), (Value.int .i64 i95), (Value.int .i64 j133)]⟩ w134 fun e150 w151 =>
                ∃ b152 : Bool, e150 = .returned (Value.bool b152) ∧
                Calls Tryd.prog fn_tidewaterref32_Net_Reach ⟨[(Value.pointer w2), (Value.int .i64 i95), (Value.int .i64 j133)]⟩ w151 fun e153 w154 =>
                ∃ b155 : Bool, e153 = .returned (Value.bool b155) ∧
                BIf (!(b152 == b155)) (
                  K (Value.bool false) w154) (
                  inR .i64 (j133 + (1 : Int)) ∧
                  (I131 ((j133 + (1 : Int))) w154 ∧ mu132 ((j133 + (1 : Int))) w154 < mu132 j133 w134))) (
                inR .i64 (i95 + (1 : Int)) ∧
                (I93 ((i95 + (1 : Int))) w134 ∧ mu94 ((i95 + (1 : Int))) w134 < mu94 i95 w96))))) (
          K (Value.bool (decide (k11 = ((s6.l : Nat) : Int)))) w96))))

theorem tidewaterlaw32_same_eq (t1 : Option Addr) (w2 : Option Addr) (nodes3 : Int) (w : World) (K : Value → World → Prop) : tidewaterlaw32_same t1 w2 nodes3 w K = denF Tryd.prog callB Tryd.f17 (.two .none (.two .none (.two .none (.two (.two .none (.one (.loop [(8, (Sh.int .i64)), (20, (Sh.int .i64))] [6, 9, 10, 21, 22, 23, 24, 25, 26, 27, 28, 29, 30, 31, 32, 33, 34, 35, 36, 37, 38, 39, 40, 41, 42, 43, 44, 45, 46, 47, 48, 49, 50, 51, 52, 53, 54, 55, 56, 57, 58, 59, 60, 61, 62, 63, 64, 65, 66, 67, 68, 69, 70, 71, 72, 73, 74] .none))) (.two (.two .none (.one (.loop [(11, (Sh.int .i64))] [6, 12, 75, 76, 77, 78, 79, 80, 81, 82, 83, 84, 85, 86, 87, 88, 89, 90, 91, 92, 93, 94, 95, 96, 97, 98, 99, 100] (.two .none (.two (.one (.two .none (.two .none (.one (.loop [(12, (Sh.int .i64))] [6, 87, 88, 89, 90, 91, 92, 93, 94, 95, 96, 97, 98, 99, 100] .none))))) .none))))) .none))))) [(Value.pointer t1), (Value.pointer w2), (Value.int .i64 nodes3)] w K := by kernel_rfl
theorem tidewaterlaw32_same_ok (t1 : Option Addr) (w2 : Option Addr) (nodes3 : Int) {w : World} {R : Ending → World → Prop} (h : tidewaterlaw32_same t1 w2 nodes3 w fun v w' => R (.returned v) w') : Calls Tryd.prog fn_tidewaterlaw32_same ⟨[(Value.pointer t1), (Value.pointer w2), (Value.int .i64 nodes3)]⟩ w R :=
  calls_of_den callB_ok mixed Tryd.func17 (tidewaterlaw32_same_eq t1 w2 nodes3 w _ ▸ h)

/-- tidewater/tidewaterlaw32.do -/
def tidewaterlaw32_do (t1 : Option Addr) (w2 : Option Addr) (a3 : Int) (a4 : Int) (a5 : Int) (a6 : Slc) (a7 : Slc) (w : World) (K : Value → World → Prop) : Prop :=
  newS w (.cells ⟨[(Value.int .i64 a3), (Value.int .i64 a4), (Value.int .i64 a5), (Slc.v a6), (Slc.v a7)]⟩ 34) fun r8 w9 =>
  ∃ n10 : Int, World.cell? w9 (⟨r8, 0, none⟩ : Addr) = some (Value.int .i64 n10) ∧
  BIf (decide (n10 = (0 : Int))) (
    ∃ n11 : Int, World.cell? w9 (⟨r8, 1, none⟩ : Addr) = some (Value.int .i64 n11) ∧
    ∃ n12 : Int, World.cell? w9 (⟨r8, 2, none⟩ : Addr) = some (Value.int .i64 n12) ∧
    ∃ s13 : Slc, World.cell? w9 (⟨r8, 3, none⟩ : Addr) = some (Slc.v s13) ∧
    Calls Tryd.prog fn_net_Net_Send ⟨[(Value.pointer t1), (Value.int .i64 n11), (Value.int .i64 n12), (Slc.v s13)]⟩ w9 fun e14 w15 =>
    ∃ n16 : Int, ∃ e17 : Value, e14 = .returned (Value.tuple ⟨[(Value.int .i64 n16), e17]⟩) ∧
    ∃ n18 : Int, World.cell? w15 (⟨r8, 1, none⟩ : Addr) = some (Value.int .i64 n18) ∧
    ∃ n19 : Int, World.cell? w15 (⟨r8, 2, none⟩ : Addr) = some (Value.int .i64 n19) ∧
    ∃ s20 : Slc, World.cell? w15 (⟨r8, 3, none⟩ : Addr) = some (Slc.v s20) ∧
    Calls Tryd.prog fn_tidewaterref32_Net_Send ⟨[(Value.pointer w2), (Value.int .i64 n18), (Value.int .i64 n19), (Slc.v s20)]⟩ w15 fun e21 w22 =>
    ∃ n23 : Int, ∃ n24 : Int, e21 = .returned (Value.tuple ⟨[(Value.int .i64 n23), (Value.int .i64 n24)]⟩) ∧
    BIf (decide (n16 = n23)) (
      Calls Tryd.prog fn_tidewaternum_Num ⟨[e17]⟩ w22 fun e25 w26 =>
      ∃ n27 : Int, e25 = .returned (Value.int .i64 n27) ∧
      K (Value.bool (decide (n27 = n24))) w26) (
      K (Value.bool false) w22)) (
    BIf (decide (n10 = (1 : Int))) (
      ∃ n28 : Int, World.cell? w9 (⟨r8, 1, none⟩ : Addr) = some (Value.int .i64 n28) ∧
      Calls Tryd.prog fn_net_Net_Deliver ⟨[(Value.pointer t1), (Value.int .i64 n28)]⟩ w9 fun e29 w30 =>
      ∃ x31 : Int, ∃ x32 : Int, ∃ x33 : Int, ∃ x34 : Slc, ∃ e35 : Value, e29 = .returned (Value.tuple ⟨[(Value.agg ⟨[(Value.int .i64 x31), (Value.int .i64 x32), (Value.int .i64 x33), (Slc.v x34)]⟩), e35]⟩) ∧
      newS w30 (.cells ⟨[(Value.int .i64 (0 : Int)), (Value.int .i64 (0 : Int)), (Value.int .i64 (0 : Int)), (Slc.v (⟨none, 0, 0⟩ : Slc))]⟩ 38) fun r36 w37 =>
      canW w37 (⟨r36, 0, none⟩ : Addr) 4 ∧ ∀ w38 : World, w38 = setCells w37 (⟨r36, 0, none⟩ : Addr) 0 [(Value.int .i64 x31), (Value.int .i64 x32), (Value.int .i64 x33), (Slc.v x34)] →
      ∃ n39 : Int, World.cell? w38 (⟨r8, 1, none⟩ : Addr) = some (Value.int .i64 n39) ∧
      Calls Tryd.prog fn_tidewaterref32_Net_Deliver ⟨[(Value.pointer w2), (Value.int .i64 n39)]⟩ w38 fun e40 w41 =>
      ∃ n42 : Int, e40 = .returned (Value.int .i64 n42) ∧
      BIf (!decide (n42 = (0 : Int))) (
        Calls Tryd.prog fn_tidewaternum_Num ⟨[e35]⟩ w41 fun e43 w44 =>
        ∃ n45 : Int, e43 = .returned (Value.int .i64 n45) ∧
        BIf (decide (n45 = n42)) (
          ∃ s46 : Slc, World.cell? w44 (⟨r36, 3, none⟩ : Addr) = some (Slc.v s46) ∧
          K (Value.bool (decide (((s46.l : Nat) : Int) = (0 : Int)))) w44) (
          K (Value.bool false) w44)) (
        needSome w2 fun a47 =>
        ∃ s48 : Slc, World.cell? (World.drew w41) (a47.add 2) = some (Slc.v s48) ∧
        ∃ n49 : Int, World.cell? (World.drew w41) (⟨r8, 1, none⟩ : Addr) = some (Value.int .i64 n49) ∧
        needSome s48.p fun a50 =>
        0 ≤ n49 ∧ n49 < ((s48.l : Nat) : Int) ∧
        ∃ n51 : Int, ∃ n52 : Int, ∃ s53 : Slc, ∃ b54 : Bool, rowAt (World.drew w41) (Addr.add a50 ((Int.toNat n49) * 4)) 0 [(Value.int .i64 n51), (Value.int .i64 n52), (Slc.v s53), (Value.bool b54)] ∧
        newS (World.drew w41) (.cells ⟨[(Value.int .i64 (0 : Int)), (Value.int .i64 (0 : Int)), (Slc.v (⟨none, 0, 0⟩ : Slc)), (Value.bool false)]⟩ 75) fun r55 w56 =>
        (∃ n57 : Int, ∃ n58 : Int, ∃ s59 : Slc, ∃ b60 : Bool, rowAt w56 (Addr.add a50 ((Int.toNat n49) * 4)) 0 [(Value.int .i64 n57), (Value.int .i64 n58), (Slc.v s59), (Value.bool b60)] ∧
        (Value.agg ⟨[(Value.int .i64 n57), (Value.int .i64 n58), (Slc.v s59), (Value.bool b60)]⟩) = (Value.agg ⟨[(Value.int .i64 n51), (Value.int .i64 n52), (Slc.v s53), (Value.bool b54)]⟩)) ∧
        (∃ n61 : Int, World.cell? w56 (⟨r8, 1, none⟩ : Addr) = some (Value.int .i64 n61) ∧
        (Value.int .i64 n61) = (Value.int .i64 n49)) ∧
        (∃ s62 : Slc, World.cell? w56 (a47.add 2) = some (Slc.v s62) ∧
        (Slc.v s62) = (Slc.v s48)) ∧
        canW w56 (⟨r55, 0, none⟩ : Addr) 4 ∧ ∀ w63 : World, w63 = setCells w56 (⟨r55, 0, none⟩ : Addr) 0 [(Value.int .i64 n51), (Value.int .i64 n52), (Slc.v s53), (Value.bool b54)] →
        isI e35 ∧
        BIf (isNilI e35) (
          ∃ n64 : Int, World.cell? w63 (⟨r36, 0, none⟩ : Addr) = some (Value.int .i64 n64) ∧
          ∃ n65 : Int, World.cell? w63 (⟨r8, 1, none⟩ : Addr) = some (Value.int .i64 n65) ∧
          BIf (decide (n64 = n65)) (
            ∃ n66 : Int, World.cell? w63 (⟨r36, 1, none⟩ : Addr) = some (Value.int .i64 n66) ∧
            ∃ n67 : Int, World.cell? w63 (⟨r55, 0, none⟩ : Addr) = some (Value.int .i64 n67) ∧
            BIf (decide (n66 = n67)) (
              ∃ n68 : Int, World.cell? w63 (⟨r36, 2, none⟩ : Addr) = some (Value.int .i64 n68) ∧
              ∃ n69 : Int, World.cell? w63 (⟨r55, 1, none⟩ : Addr) = some (Value.int .i64 n69) ∧
              BIf (decide (n68 = n69)) (
                ∃ s70 : Slc, World.cell? w63 (⟨r36, 3, none⟩ : Addr) = some (Slc.v s70) ∧
                ∃ t71 : List UInt8, bytesAt w63 s70 t71 ∧
                ∃ s72 : Slc, World.cell? w63 (⟨r55, 2, none⟩ : Addr) = some (Slc.v s72) ∧
                ∃ t73 : List UInt8, bytesAt w63 s72 t73 ∧
                K (Value.bool (decide (t71 = t73))) w63) (
                K (Value.bool false) w63)) (
              K (Value.bool false) w63)) (
            K (Value.bool false) w63)) (
          K (Value.bool false) w63))) (
      BIf (decide (n10 = (2 : Int))) (
        ∃ n74 : Int, World.cell? (World.drew w9) (⟨r8, 1, none⟩ : Addr) = some (Value.int .i64 n74) ∧
        ∃ n75 : Int, World.cell? (World.drew w9) (⟨r8, 1, none⟩ : Addr) = some (Value.int .i64 n75) ∧
        Calls Tryd.prog fn_net_Net_Drop ⟨[(Value.pointer t1), (Value.int .i64 n74)]⟩ (World.drew w9) fun e76 w77 =>
        ∃ e78 : Value, e76 = .returned e78 ∧
        (∃ n79 : Int, World.cell? w77 (⟨r8, 1, none⟩ : Addr) = some (Value.int .i64 n79) ∧
        (Value.int .i64 n79) = (Value.int .i64 n75)) ∧
        Calls Tryd.prog fn_tidewaternum_Num ⟨[e78]⟩ w77 fun e80 w81 =>
        ∃ n82 : Int, e80 = .returned (Value.int .i64 n82) ∧
        (∃ n83 : Int, World.cell? w81 (⟨r8, 1, none⟩ : Addr) = some (Value.int .i64 n83) ∧
        (Value.int .i64 n83) = (Value.int .i64 n75)) ∧
        Calls Tryd.prog fn_tidewaterref32_Net_Drop ⟨[(Value.pointer w2), (Value.int .i64 n75)]⟩ w81 fun e84 w85 =>
        ∃ n86 : Int, e84 = .returned (Value.int .i64 n86) ∧
        K (Value.bool (decide (n82 = n86))) w85) (
        BIf (decide (n10 = (3 : Int))) (
          ∃ n87 : Int, World.cell? w9 (⟨r8, 1, none⟩ : Addr) = some (Value.int .i64 n87) ∧
          Calls Tryd.prog fn_net_Net_Double ⟨[(Value.pointer t1), (Value.int .i64 n87)]⟩ w9 fun e88 w89 =>
          ∃ n90 : Int, ∃ e91 : Value, e88 = .returned (Value.tuple ⟨[(Value.int .i64 n90), e91]⟩) ∧
          ∃ n92 : Int, World.cell? w89 (⟨r8, 1, none⟩ : Addr) = some (Value.int .i64 n92) ∧
          Calls Tryd.prog fn_tidewaterref32_Net_Double ⟨[(Value.pointer w2), (Value.int .i64 n92)]⟩ w89 fun e93 w94 =>
          ∃ n95 : Int, ∃ n96 : Int, e93 = .returned (Value.tuple ⟨[(Value.int .i64 n95), (Value.int .i64 n96)]⟩) ∧
          BIf (decide (n90 = n95)) (
            Calls Tryd.prog fn_tidewaternum_Num ⟨[e91]⟩ w94 fun e97 w98 =>
            ∃ n99 : Int, e97 = .returned (Value.int .i64 n99) ∧
            K (Value.bool (decide (n99 = n96))) w98) (
            K (Value.bool false) w94)) (
          ∃ J100 : (Bool) → World → Prop,
          (
            BIf (decide (n10 = (4 : Int))) (
              J100 ((decide (n10 = (4 : Int)))) w9) (
              J100 ((decide (n10 = (5 : Int)))) w9)) ∧ (
          ∀ x101 : Bool, ∀ w102 : World, J100 x101 w102 → ∀ u103 u104 : Value,
            BIf x101 (
              ∃ n105 : Int, World.cell? w102 (⟨r8, 1, none⟩ : Addr) = some (Value.int .i64 n105) ∧
              ∃ n106 : Int, World.cell? w102 (⟨r8, 0, none⟩ : Addr) = some (Value.int .i64 n106) ∧
              Calls Tryd.prog fn_net_Net_Set ⟨[(Value.pointer t1), (Value.int .i64 n105), (Value.bool (decide (n106 = (4 : Int))))]⟩ w102 fun e107 w108 =>
              e107 = .returned (Value.tuple #[]) ∧
              ∃ n109 : Int, World.cell? (World.drew w108) (⟨r8, 1, none⟩ : Addr) = some (Value.int .i64 n109) ∧
              BIf (decide ((0 : Int) ≤ n109)) (
                ∃ n110 : Int, World.cell? (World.drew w108) (⟨r8, 1, none⟩ : Addr) = some (Value.int .i64 n110) ∧
                needSome w2 fun a111 =>
                ∃ s112 : Slc, World.cell? (World.drew w108) a111 = some (Slc.v s112) ∧
                BIf (decide (n110 < ((s112.l : Nat) : Int))) (
                  needSome w2 fun a113 =>
                  ∃ s114 : Slc, World.cell? (World.drew (World.drew w108)) a113 = some (Slc.v s114) ∧
                  ∃ n115 : Int, World.cell? (World.drew (World.drew w108)) (⟨r8, 1, none⟩ : Addr) = some (Value.int .i64 n115) ∧
                  ∃ n116 : Int, World.cell? (World.drew (World.drew w108)) (⟨r8, 0, none⟩ : Addr) = some (Value.int .i64 n116) ∧
                  needSome s114.p fun a117 =>
                  0 ≤ n115 ∧ n115 < ((s114.l : Nat) : Int) ∧
                  canW (World.drew (World.drew w108)) (Addr.add a117 ((Int.toNat n115) * 1)) 1 ∧ ∀ w118 : World, w118 = World.setCell (World.drew (World.drew w108)) (Addr.add a117 ((Int.toNat n115) * 1)) (Value.bool (decide (n116 = (4 : Int)))) →
                  K (Value.bool true) w118) (
                  K (Value.bool true) (World.drew w108))) (
                K (Value.bool true) (World.drew w108))) (
              BIf (decide (n10 = (6 : Int))) (
                ∃ s119 : Slc, World.cell? w102 (⟨r8, 4, none⟩ : Addr) = some (Slc.v s119) ∧
                Calls Tryd.prog fn_net_Net_Part ⟨[(Value.pointer t1), (Slc.v s119)]⟩ w102 fun e120 w121 =>
                e120 = .returned (Value.tuple #[]) ∧
                needSome w2 fun a122 =>
                ∃ s123 : Slc, World.cell? w121 (a122.add 1) = some (Slc.v s123) ∧
                ∃ (I124 : (Int) → World → Prop) (mu125 : (Int) → World → Nat), I124 ((0 : Int)) w121 ∧ (
                ∀ i126 : Int, ∀ w127 : World, I124 i126 w127 → ∀ u128 u129 u130 u131 u132 u133 u134 u135 u136 u137 u138 u139 u140 u141 : Value,
                  BIf (decide (i126 < ((s123.l : Nat) : Int))) (
                    needSome w2 fun a142 =>
                    ∃ s143 : Slc, World.cell? (World.drew w127) (a142.add 1) = some (Slc.v s143) ∧
                    ∃ s144 : Slc, World.cell? (World.drew w127) (⟨r8, 4, none⟩ : Addr) = some (Slc.v s144) ∧
                    Calls Tryd.prog fn_tidewaternum_In ⟨[(Slc.v s144), (Value.int .i64 i126)]⟩ (World.drew w127) fun e145 w146 =>
                    ∃ b147 : Bool, e145 = .returned (Value.bool b147) ∧
                    (∃ s148 : Slc, World.cell? w146 (a142.add 1) = some (Slc.v s148) ∧
                    (Slc.v s148) = (Slc.v s143)) ∧
                    needSome s143.p fun a149 =>
                    0 ≤ i126 ∧ i126 < ((s143.l : Nat) : Int) ∧
                    canW w146 (Addr.add a149 ((Int.toNat i126) * 1)) 1 ∧ ∀ w150 : World, w150 = World.setCell w146 (Addr.add a149 ((Int.toNat i126) * 1)) (Value.bool b147) →
                    inR .i64 (i126 + (1 : Int)) ∧
                    (I124 ((i126 + (1 : Int))) w150 ∧ mu125 ((i126 + (1 : Int))) w150 < mu125 i126 w127)) (
                    K (Value.bool true) w127))) (
                Calls Tryd.prog fn_net_Net_Join ⟨[(Value.pointer t1)]⟩ w102 fun e151 w152 =>
                e151 = .returned (Value.tuple #[]) ∧
                needSome w2 fun a153 =>
                ∃ s154 : Slc, World.cell? w152 (a153.add 1) = some (Slc.v s154) ∧
                ∃ (I155 : (Int) → World → Prop) (mu156 : (Int) → World → Nat), I155 ((0 : Int)) w152 ∧ (
                ∀ i157 : Int, ∀ w158 : World, I155 i157 w158 → ∀ u159 u160 u161 u162 u163 u164 u165 u166 u167 u168 : Value,
                  BIf (decide (i157 < ((s154.l : Nat) : Int))) (
                    needSome w2 fun a169 =>
                    ∃ s170 : Slc, World.cell? w158 (a169.add 1) = some (Slc.v s170) ∧
                    needSome s170.p fun a171 =>
                    0 ≤ i157 ∧ i157 < ((s170.l : Nat) : Int) ∧
                    canW w158 (Addr.add a171 ((Int.toNat i157) * 1)) 1 ∧ ∀ w172 : World, w172 = World.setCell w158 (Addr.add a171 ((Int.toNat i157) * 1)) (Value.bool false) →
                    inR .i64 (i157 + (1 : Int)) ∧
                    (I155 ((i157 + (1 : Int))) w172 ∧ mu156 ((i157 + (1 : Int))) w172 < mu156 i157 w158)) (
                    K (Value.bool true) w158)))))))))

theorem tidewaterlaw32_do_eq (t1 : Option Addr) (w2 : Option Addr) (a3 : Int) (a4 : Int) (a5 : Int) (a6 : Slc) (a7 : Slc) (w : World) (K : Value → World → Prop) : tidewaterlaw32_do t1 w2 a3 a4 a5 a6 a7 w K = denF Tryd.prog callB Tryd.f16 (.two .none (.two (.two .none (.one (.two .none (.two .none (.two .none (.two .none (.two .none (.two .none (.two .none (.two .none (.cut [(175, Sh.bool)] [176, 177] .none (.two .none (.two .none (.two (.two .none (.two .none (.one (.loop [(219, (Sh.int .i64))] [19, 220, 221, 222, 223, 224, 225, 226, 227, 228, 229, 230, 231, 232] .none)))) (.two .none (.two .none (.one (.loop [(30, (Sh.int .i64))] [20, 31, 32, 33, 34, 35, 36, 37, 38, 39] .none)))))))))))))))))) .none)) [(Value.pointer t1), (Value.pointer w2), (Value.agg ⟨[(Value.int .i64 a3), (Value.int .i64 a4), (Value.int .i64 a5), (Slc.v a6), (Slc.v a7)]⟩)] w K := by kernel_rfl
theorem tidewaterlaw32_do_ok (t1 : Option Addr) (w2 : Option Addr) (a3 : Int) (a4 : Int) (a5 : Int) (a6 : Slc) (a7 : Slc) {w : World} {R : Ending → World → Prop} (h : tidewaterlaw32_do t1 w2 a3 a4 a5 a6 a7 w fun v w' => R (.returned v) w') : Calls Tryd.prog fn_tidewaterlaw32_do ⟨[(Value.pointer t1), (Value.pointer w2), (Value.agg ⟨[(Value.int .i64 a3), (Value.int .i64 a4), (Value.int .i64 a5), (Slc.v a6), (Slc.v a7)]⟩)]⟩ w R :=
  calls_of_den callB_ok mixed Tryd.func16 (tidewaterlaw32_do_eq t1 w2 a3 a4 a5 a6 a7 w _ ▸ h)

/-- tidewater/tidewaterlaw32.NetSent -/
def tidewaterlaw32_NetSent (list1 : Slc) (w : World) (K : Value → World → Prop) : Prop :=
  Calls Tryd.prog fn_tidewaterlaw32_alive ⟨[]⟩ w fun e2 w3 =>
  ∃ b4 : Bool, e2 = .returned (Value.bool b4) ∧
  BIf (!b4) (
    K (Value.bool false) w3) (
    Calls Tryd.prog fn_tidewaterlaw32_long ⟨[(Slc.v list1)]⟩ w3 fun e5 w6 =>
    ∃ b7 : Bool, e5 = .returned (Value.bool b7) ∧
    BIf b7 (
      K (Value.bool true) w6) (
      Calls Tryd.prog fn_net_New ⟨[(Value.int .i64 (4 : Int))]⟩ w6 fun e8 w9 =>
      ∃ p10 : Option Addr, ∃ e11 : Value, e8 = .returned (Value.tuple ⟨[(Value.pointer p10), e11]⟩) ∧
      isI e11 ∧
      BIf (!isNilI e11) (
        K (Value.bool false) w9) (
        newS w9 (.map #[] 0) fun r12 w13 =>
        ∃ (I14 : (Int) → World → Prop) (mu15 : (Int) → World → Nat), I14 ((0 : Int)) w13 ∧ (
        ∀ i16 : Int, ∀ w17 : World, I14 i16 w17 → ∀ u18 u19 u20 u21 u22 u23 u24 u25 u26 u27 u28 u29 u30 u31 u32 u33 u34 u35 u36 u37 u38 u39 u40 u41 u42 u43 u44 u45 u46 u47 u48 u49 u50 u51 u52 u53 u54 u55 u56 u57 u58 u59 u60 u61 u62 u63 u64 u65 u66 u67 u68 u69 u70 u71 u72 u73 u74 u75 u76 u77 u78 u79 u80 u81 u82 u83 u84 u85 u86 u87 u88 u89 u90 u91 u92 u93 u94 u95 u96 u97 u98 u99 u100 u101 u102 u103 u104 u105 u106 u107 u108 u109 u110 u111 u112 u113 u114 u115 u116 u117 u118 u119 u120 u121 u122 u123 u124 u125 u126 u127 u128 u129 u130 u131 u132 u133 u134 u135 u136 u137 u138 u139 u140 u141 u142 u143 u144 u145 u146 u147 u148 u149 u150 u151 u152 u153 u154 : Value,
          BIf (decide (i16 < ((list1.l : Nat) : Int))) (
            needSome list1.p fun a155 =>
            0 ≤ i16 ∧ i16 < ((list1.l : Nat) : Int) ∧
            ∃ n156 : Int, ∃ n157 : Int, ∃ n158 : Int, ∃ s159 : Slc, ∃ s160 : Slc, rowAt w17 (Addr.add a155 ((Int.toNat i16) * 5)) 0 [(Value.int .i64 n156), (Value.int .i64 n157), (Value.int .i64 n158), (Slc.v s159), (Slc.v s160)] ∧
            newS w17 (.cells ⟨[(Value.int .i64 (0 : Int)), (Value.int .i64 (0 : Int)), (Value.int .i64 (0 : Int)), (Slc.v (⟨none, 0, 0⟩ : Slc)), (Slc.v (⟨none, 0, 0⟩ : Slc))]⟩ 34) fun r161 w162 =>
            canW w162 (⟨r161, 0, none⟩ : Addr) 5 ∧ ∀ w163 : World, w163 = setCells w162 (⟨r161, 0, none⟩ : Addr) 0 [(Value.int .i64 n156), (Value.int .i64 n157), (Value.int .i64 n158), (Slc.v s159), (Slc.v s160)] →
            ∃ n164 : Int, World.cell? w163 (⟨r161, 0, none⟩ : Addr) = some (Value.int .i64 n164) ∧
            BIf (decide (n164 = (0 : Int))) (
              ∃ n165 : Int, World.cell? w163 (⟨r161, 1, none⟩ : Addr) = some (Value.int .i64 n165) ∧
              ∃ n166 : Int, World.cell? w163 (⟨r161, 2, none⟩ : Addr) = some (Value.int .i64 n166) ∧
              ∃ s167 : Slc, World.cell? w163 (⟨r161, 3, none⟩ : Addr) = some (Slc.v s167) ∧
              Calls Tryd.prog fn_net_Net_Send ⟨[(Value.pointer p10), (Value.int .i64 n165), (Value.int .i64 n166), (Slc.v s167)]⟩ w163 fun e168 w169 =>
              ∃ n170 : Int, ∃ e171 : Value, e168 = .returned (Value.tuple ⟨[(Value.int .i64 n170), e171]⟩) ∧
              isI e171 ∧
              BIf (isNilI e171) (
                ∃ es172 : Array MapEntry, mapIs w169 (some r12) es172 ∧
                ((mapGet (.int .i64) (Value.int .i64 n170) es172 = some none ∧
                newS w169 (.cells ⟨[(Value.int .i64 (0 : Int)), (Value.int .i64 (0 : Int)), (Value.int .i64 (0 : Int)), (Slc.v (⟨none, 0, 0⟩ : Slc))]⟩ 38) fun r177 w178 =>
                canW w178 (⟨r177, 0, none⟩ : Addr) 4 ∧ ∀ w179 : World, w179 = setCells w178 (⟨r177, 0, none⟩ : Addr) 0 [(Value.int .i64 (0 : Int)), (Value.int .i64 (0 : Int)), (Value.int .i64 (0 : Int)), (Slc.v (⟨none, 0, 0⟩ : Slc))] →
                ∃ n180 : Int, World.cell? w179 (⟨r161, 1, none⟩ : Addr) = some (Value.int .i64 n180) ∧
                ∃ n181 : Int, World.cell? w179 (⟨r161, 2, none⟩ : Addr) = some (Value.int .i64 n181) ∧
                ∃ s182 : Slc, World.cell? w179 (⟨r161, 3, none⟩ : Addr) = some (Slc.v s182) ∧
                ∃ (mb183 : Nat) (es184 : Array MapEntry) (ck185 : Nat) (es186 : Array MapEntry) (ck187 : Nat), (some r12) = some mb183 ∧ (World.heap (w179))[mb183]? = some (.map es184 ck185) ∧ mapPut (.int .i64) (Value.int .i64 n170) (Value.agg ⟨[(Value.int .i64 n170), (Value.int .i64 n180), (Value.int .i64 n181), (Slc.v s182)]⟩) es184 ck185 = some (es186, ck187) ∧ ∀ w188 : World, w188 = setObjW w179 mb183 (.map es186 ck187) →
                Calls Tryd.prog fn_net_Net_Waiting ⟨[(Value.pointer p10)]⟩ w188 fun e189 w190 =>
                ∃ s191 : Slc, e189 = .returned (Slc.v s191) ∧
                ∃ es192 : Array MapEntry, mapIs w190 (some r12) es192 ∧
                BIf (!decide (((s191.l : Nat) : Int) = (((Array.size es192) : Nat) : Int))) (
                  K (Value.bool false) w190) (
                  inR .i64 (i16 + (1 : Int)) ∧
                  (I14 ((i16 + (1 : Int))) w190 ∧ mu15 ((i16 + (1 : Int))) w190 < mu15 i16 w17))) ∨
                 (∃ x173 : Int, ∃ x174 : Int, ∃ x175 : Int, ∃ x176 : Slc, mapGet (.int .i64) (Value.int .i64 n170) es172 = some (some (Value.agg ⟨[(Value.int .i64 x173), (Value.int .i64 x174), (Value.int .i64 x175), (Slc.v x176)]⟩)) ∧
                newS w169 (.cells ⟨[(Value.int .i64 (0 : Int)), (Value.int .i64 (0 : Int)), (Value.int .i64 (0 : Int)), (Slc.v (⟨none, 0, 0⟩ : Slc))]⟩ 38) fun r193 w194 =>
                canW w194 (⟨r193, 0, none⟩ : Addr) 4 ∧ ∀ w195 : World, w195 = setCells w194 (⟨r193, 0, none⟩ : Addr) 0 [(Value.int .i64 x173), (Value.int .i64 x174), (Value.int .i64 x175), (Slc.v x176)] →
                K (Value.bool false) w195))) (
                Calls Tryd.prog fn_net_Net_Waiting ⟨[(Value.pointer p10)]⟩ w169 fun e196 w197 =>
                ∃ s198 : Slc, e196 = .returned (Slc.v s198) ∧
                ∃ es199 : Array MapEntry, mapIs w197 (some r12) es199 ∧
                BIf (!decide (((s198.l : Nat) : Int) = (((Array.size es199) : Nat) : Int))) (
                  K (Value.bool false) w197) (
                  inR .i64 (i16 + (1 : Int)) ∧
                  (I14 ((i16 + (1 : Int))) w197 ∧ mu15 ((i16 + (1 : Int))) w197 < mu15 i16 w17)))) (
              BIf (decide (n164 = (1 : Int))) (
                ∃ n200 : Int, World.cell? w163 (⟨r161, 1, none⟩ : Addr) = some (Value.int .i64 n200) ∧
                Calls Tryd.prog fn_net_Net_Deliver ⟨[(Value.pointer p10), (Value.int .i64 n200)]⟩ w163 fun e201 w202 =>
                ∃ x203 : Int, ∃ x204 : Int, ∃ x205 : Int, ∃ x206 : Slc, ∃ e207 : Value, e201 = .returned (Value.tuple ⟨[(Value.agg ⟨[(Value.int .i64 x203), (Value.int .i64 x204), (Value.int .i64 x205), (Slc.v x206)]⟩), e207]⟩) ∧
                newS w202 (.cells ⟨[(Value.int .i64 (0 : Int)), (Value.int .i64 (0 : Int)), (Value.int .i64 (0 : Int)), (Slc.v (⟨none, 0, 0⟩ : Slc))]⟩ 38) fun r208 w209 =>
                canW w209 (⟨r208, 0, none⟩ : Addr) 4 ∧ ∀ w210 : World, w210 = setCells w209 (⟨r208, 0, none⟩ : Addr) 0 [(Value.int .i64 x203), (Value.int .i64 x204), (Value.int .i64 x205), (Slc.v x206)] →
                ∃ n211 : Int, World.cell? w210 (⟨r161, 1, none⟩ : Addr) = some (Value.int .i64 n211) ∧
                ∃ es212 : Array MapEntry, mapIs w210 (some r12) es212 ∧
                ((mapGet (.int .i64) (Value.int .i64 n211) es212 = some none ∧
                newS w210 (.cells ⟨[(Value.int .i64 (0 : Int)), (Value.int .i64 (0 : Int)), (Value.int .i64 (0 : Int)), (Slc.v (⟨none, 0, 0⟩ : Slc))]⟩ 38) fun r217 w218 =>
                canW w218 (⟨r217, 0, none⟩ : Addr) 4 ∧ ∀ w219 : World, w219 = setCells w218 (⟨r217, 0, none⟩ : Addr) 0 [(Value.int .i64 (0 : Int)), (Value.int .i64 (0 : Int)), (Value.int .i64 (0 : Int)), (Slc.v (⟨none, 0, 0⟩ : Slc))] →
                isI e207 ∧
                BIf (isNilI e207) (
                  K (Value.bool false) w219) (
                  isI e207 ∧
                  BIf (isNilI e207) (
                    ∃ n220 : Int, World.cell? w219 (⟨r161, 1, none⟩ : Addr) = some (Value.int .i64 n220) ∧
                    ∃ (mb221 : Nat) (es222 : Array MapEntry) (ck223 : Nat) (es224 : Array MapEntry), (some r12) = some mb221 ∧ (World.heap (w219))[mb221]? = some (.map es222 ck223) ∧ mapDel (.int .i64) (Value.int .i64 n220) es222 = some es224 ∧ ∀ w225 : World, w225 = setObjW w219 mb221 (.map es224 ck223) →
                    Calls Tryd.prog fn_net_Net_Waiting ⟨[(Value.pointer p10)]⟩ w225 fun e226 w227 =>
                    ∃ s228 : Slc, e226 = .returned (Slc.v s228) ∧
                    ∃ es229 : Array MapEntry, mapIs w227 (some r12) es229 ∧
                    BIf (!decide (((s228.l : Nat) : Int) = (((Array.size es229) : Nat) : Int))) (
                      K (Value.bool false) w227) (
                      inR .i64 (i16 + (1 : Int)) ∧
                      (I14 ((i16 + (1 : Int))) w227 ∧ mu15 ((i16 + (1 : Int))) w227 < mu15 i16 w17))) (
                    Calls Tryd.prog fn_net_Net_Waiting ⟨[(Value.pointer p10)]⟩ w219 fun e230 w231 =>
                    ∃ s232 : Slc, e230 = .returned (Slc.v s232) ∧
                    ∃ es233 : Array MapEntry, mapIs w231 (some r12) es233 ∧
                    BIf (!decide (((s232.l : Nat) : Int) = (((Array.size es233) : Nat) : Int))) (
                      K (Value.bool false) w231) (
                      inR .i64 (i16 + (1 : Int)) ∧
                      (I14 ((i16 + (1 : Int))) w231 ∧ mu15 ((i16 + (1 : Int))) w231 < mu15 i16 w17))))) ∨
                 (∃ x213 : Int, ∃ x214 : Int, ∃ x215 : Int, ∃ x216 : Slc, mapGet (.int .i64) (Value.int .i64 n211) es212 = some (some (Value.agg ⟨[(Value.int .i64 x213), (Value.int .i64 x214), (Value.int .i64 x215), (Slc.v x216)]⟩)) ∧
                newS w210 (.cells ⟨[(Value.int .i64 (0 : Int)), (Value.int .i64 (0 : Int)), (Value.int .i64 (0 : Int)), (Slc.v (⟨none, 0, 0⟩ : Slc))]⟩ 38) fun r234 w235 =>
                canW w235 (⟨r234, 0, none⟩ : Addr) 4 ∧ ∀ w236 : World, w236 = setCells w235 (⟨r234, 0, none⟩ : Addr) 0 [(Value.int .i64 x213), (Value.int .i64 x214), (Value.int .i64 x215), (Slc.v x216)] →
                isI e207 ∧
                BIf (isNilI e207) (
                  ∃ n237 : Int, World.cell? w236 (⟨r208, 1, none⟩ : Addr) = some (Value.int .i64 n237) ∧
                  ∃ n238 : Int, World.cell? w236 (⟨r234, 1, none⟩ : Addr) = some (Value.int .i64 n238) ∧
                  BIf (!decide (n237 = n238)) (
                    K (Value.bool false) w236) (
                    ∃ n239 : Int, World.cell? w236 (⟨r208, 2, none⟩ : Addr) = some (Value.int .i64 n239) ∧
                    ∃ n240 : Int, World.cell? w236 (⟨r234, 2, none⟩ : Addr) = some (Value.int .i64 n240) ∧
                    BIf (!decide (n239 = n240)) (
                      K (Value.bool false) w236) (
                      ∃ s241 : Slc, World.cell? w236 (⟨r208, 3, none⟩ : Addr) = some (Slc.v s241) ∧
                      ∃ t242 : List UInt8, bytesAt w236 s241 t242 ∧
                      ∃ s243 : Slc, World.cell? w236 (⟨r234, 3, none⟩ : Addr) = some (Slc.v s243) ∧
                      ∃ t244 : List UInt8, bytesAt w236 s243 t244 ∧
                      BIf (!decide (t242 = t244)) (
                        K (Value.bool false) w236) (
                        isI e207 ∧
                        BIf (isNilI e207) (
                          ∃ n245 : Int, World.cell? w236 (⟨r161, 1, none⟩ : Addr) = some (Value.int .i64 n245) ∧
                          ∃ (mb246 : Nat) (es247 : Array MapEntry) (ck248 : Nat) (es249 : Array MapEntry), (some r12) = some mb246 ∧ (World.heap (w236))[mb246]? = some (.map es247 ck248) ∧ mapDel (.int .i64) (Value.int .i64 n245) es247 = some es249 ∧ ∀ w250 : World, w250 = setObjW w236 mb246 (.map es249 ck248) →
                          Calls Tryd.prog fn_net_Net_Waiting ⟨[(Value.pointer p10)]⟩ w250 fun e251 w252 =>
                          ∃ s253 : Slc, e251 = .returned (Slc.v s253) ∧
                          ∃ es254 : Array MapEntry, mapIs w252 (some r12) es254 ∧
                          BIf (!decide (((s253.l : Nat) : Int) = (((Array.size es254) : Nat) : Int))) (
                            K (Value.bool false) w252) (
                            inR .i64 (i16 + (1 : Int)) ∧
                            (I14 ((i16 + (1 : Int))) w252 ∧ mu15 ((i16 + (1 : Int))) w252 < mu15 i16 w17))) (
                          Calls Tryd.prog fn_net_Net_Waiting ⟨[(Value.pointer p10)]⟩ w236 fun e255 w256 =>
                          ∃ s257 : Slc, e255 = .returned (Slc.v s257) ∧
                          ∃ es258 : Array MapEntry, mapIs w256 (some r12) es258 ∧
                          BIf (!decide (((s257.l : Nat) : Int) = (((Array.size es258) : Nat) : Int))) (
                            K (Value.bool false) w256) (
                            inR .i64 (i16 + (1 : Int)) ∧
                            (I14 ((i16 + (1 : Int))) w256 ∧ mu15 ((i16 + (1 : Int))) w256 < mu15 i16 w17))))))) (
                  isI e207 ∧
                  BIf (isNilI e207) (
                    ∃ n259 : Int, World.cell? w236 (⟨r161, 1, none⟩ : Addr) = some (Value.int .i64 n259) ∧
                    ∃ (mb260 : Nat) (es261 : Array MapEntry) (ck262 : Nat) (es263 : Array MapEntry), (some r12) = some mb260 ∧ (World.heap (w236))[mb260]? = some (.map es261 ck262) ∧ mapDel (.int .i64) (Value.int .i64 n259) es261 = some es263 ∧ ∀ w264 : World, w264 = setObjW w236 mb260 (.map es263 ck262) →
                    Calls Tryd.prog fn_net_Net_Waiting ⟨[(Value.pointer p10)]⟩ w264 fun e265 w266 =>
                    ∃ s267 : Slc, e265 = .returned (Slc.v s267) ∧
                    ∃ es268 : Array MapEntry, mapIs w266 (some r12) es268 ∧
                    BIf (!decide (((s267.l : Nat) : Int) = (((Array.size es268) : Nat) : Int))) (
                      K (Value.bool false) w266) (
                      inR .i64 (i16 + (1 : Int)) ∧
                      (I14 ((i16 + (1 : Int))) w266 ∧ mu15 ((i16 + (1 : Int))) w266 < mu15 i16 w17))) (
                    Calls Tryd.prog fn_net_Net_Waiting ⟨[(Value.pointer p10)]⟩ w236 fun e269 w270 =>
                    ∃ s271 : Slc, e269 = .returned (Slc.v s271) ∧
                    ∃ es272 : Array MapEntry, mapIs w270 (some r12) es272 ∧
                    BIf (!decide (((s271.l : Nat) : Int) = (((Array.size es272) : Nat) : Int))) (
                      K (Value.bool false) w270) (
                      inR .i64 (i16 + (1 : Int)) ∧
                      (I14 ((i16 + (1 : Int))) w270 ∧ mu15 ((i16 + (1 : Int))) w270 < mu15 i16 w17))))))) (
                BIf (decide (n164 = (2 : Int))) (
                  ∃ n273 : Int, World.cell? w163 (⟨r161, 1, none⟩ : Addr) = some (Value.int .i64 n273) ∧
                  Calls Tryd.prog fn_net_Net_Drop ⟨[(Value.pointer p10), (Value.int .i64 n273)]⟩ w163 fun e274 w275 =>
                  ∃ e276 : Value, e274 = .returned e276 ∧
                  isI e276 ∧
                  BIf (isNilI e276) (
                    ∃ n277 : Int, World.cell? w275 (⟨r161, 1, none⟩ : Addr) = some (Value.int .i64 n277) ∧
                    ∃ (mb278 : Nat) (es279 : Array MapEntry) (ck280 : Nat) (es281 : Array MapEntry), (some r12) = some mb278 ∧ (World.heap (w275))[mb278]? = some (.map es279 ck280) ∧ mapDel (.int .i64) (Value.int .i64 n277) es279 = some es281 ∧ ∀ w282 : World, w282 = setObjW w275 mb278 (.map es281 ck280) →
                    Calls Tryd.prog fn_net_Net_Waiting ⟨[(Value.pointer p10)]⟩ w282 fun e283 w284 =>
                    ∃ s285 : Slc, e283 = .returned (Slc.v s285) ∧
                    ∃ es286 : Array MapEntry, mapIs w284 (some r12) es286 ∧
                    BIf (!decide (((s285.l : Nat) : Int) = (((Array.size es286) : Nat) : Int))) (
                      K (Value.bool false) w284) (
                      inR .i64 (i16 + (1 : Int)) ∧
                      (I14 ((i16 + (1 : Int))) w284 ∧ mu15 ((i16 + (1 : Int))) w284 < mu15 i16 w17))) (
                    Calls Tryd.prog fn_net_Net_Waiting ⟨[(Value.pointer p10)]⟩ w275 fun e287 w288 =>
                    ∃ s289 : Slc, e287 = .returned (Slc.v s289) ∧
                    ∃ es290 : Array MapEntry, mapIs w288 (some r12) es290 ∧
                    BIf (!decide (((s289.l : Nat) : Int) = (((Array.size es290) : Nat) : Int))) (
                      K (Value.bool false) w288) (
                      inR .i64 (i16 + (1 : Int)) ∧
                      (I14 ((i16 + (1 : Int))) w288 ∧ mu15 ((i16 + (1 : Int))) w288 < mu15 i16 w17)))) (
                  BIf (decide (n164 = (3 : Int))) (
                    ∃ n291 : Int, World.cell? w163 (⟨r161, 1, none⟩ : Addr) = some (Value.int .i64 n291) ∧
                    Calls Tryd.prog fn_net_Net_Double ⟨[(Value.pointer p10), (Value.int .i64 n291)]⟩ w163 fun e292 w293 =>
                    ∃ n294 : Int, ∃ e295 : Value, e292 = .returned (Value.tuple ⟨[(Value.int .i64 n294), e295]⟩) ∧
                    isI e295 ∧
                    BIf (isNilI e295) (
                      ∃ n296 : Int, World.cell? w293 (⟨r161, 1, none⟩ : Addr) = some (Value.int .i64 n296) ∧
                      ∃ es297 : Array MapEntry, mapIs w293 (some r12) es297 ∧
                      ((mapGet (.int .i64) (Value.int .i64 n296) es297 = some none ∧
                      newS w293 (.cells ⟨[(Value.int .i64 (0 : Int)), (Value.int .i64 (0 : Int)), (Value.int .i64 (0 : Int)), (Slc.v (⟨none, 0, 0⟩ : Slc))]⟩ 38) fun r302 w303 =>
                      canW w303 (⟨r302, 0, none⟩ : Addr) 4 ∧ ∀ w304 : World, w304 = setCells w303 (⟨r302, 0, none⟩ : Addr) 0 [(Value.int .i64 (0 : Int)), (Value.int .i64 (0 : Int)), (Value.int .i64 (0 : Int)), (Slc.v (⟨none, 0, 0⟩ : Slc))] →
                      canW w304 (⟨r302, 0, none⟩ : Addr) 1 ∧ ∀ w305 : World, w305 = World.setCell w304 (⟨r302, 0, none⟩ : Addr) (Value.int .i64 n294) →
                      ∃ n306 : Int, ∃ n307 : Int, ∃ n308 : Int, ∃ s309 : Slc, rowAt w305 (⟨r302, 0, none⟩ : Addr) 0 [(Value.int .i64 n306), (Value.int .i64 n307), (Value.int .i64 n308), (Slc.v s309)] ∧
                      ∃ (mb310 : Nat) (es311 : Array MapEntry) (ck312 : Nat) (es313 : Array MapEntry) (ck314 : Nat), (some r12) = some mb310 ∧ (World.heap (w305))[mb310]? = some (.map es311 ck312) ∧ mapPut (.int .i64) (Value.int .i64 n294) (Value.agg ⟨[(Value.int .i64 n306), (Value.int .i64 n307), (Value.int .i64 n308), (Slc.v s309)]⟩) es311 ck312 = some (es313, ck314) ∧ ∀ w315 : World, w315 = setObjW w305 mb310 (.map es313 ck314) →
                      Calls Tryd.prog fn_net_Net_Waiting ⟨[(Value.pointer p10)]⟩ w315 fun e316 w317 =>
                      ∃ s318 : Slc, e316 = .returned (Slc.v s318) ∧
                      ∃ es319 : Array MapEntry, mapIs w317 (some r12) es319 ∧
                      BIf (!decide (((s318.l : Nat) : Int) = (((Array.size es319) : Nat) : Int))) (
                        K (Value.bool false) w317) (
                        inR .i64 (i16 + (1 : Int)) ∧
                        (I14 ((i16 + (1 : Int))) w317 ∧ mu15 ((i16 + (1 : Int))) w317 < mu15 i16 w17))) ∨
                       (∃ x298 : Int, ∃ x299 : Int, ∃ x300 : Int, ∃ x301 : Slc, mapGet (.int .i64) (Value.int .i64 n296) es297 = some (some (Value.agg ⟨[(Value.int .i64 x298), (Value.int .i64 x299), (Value.int .i64 x300), (Slc.v x301)]⟩)) ∧
                      newS w293 (.cells ⟨[(Value.int .i64 (0 : Int)), (Value.int .i64 (0 : Int)), (Value.int .i64 (0 : Int)), (Slc.v (⟨none, 0, 0⟩ : Slc))]⟩ 38) fun r320 w321 =>
                      canW w321 (⟨r320, 0, none⟩ : Addr) 4 ∧ ∀ w322 : World, w322 = setCells w321 (⟨r320, 0, none⟩ : Addr) 0 [(Value.int .i64 x298), (Value.int .i64 x299), (Value.int .i64 x300), (Slc.v x301)] →
                      canW w322 (⟨r320, 0, none⟩ : Addr) 1 ∧ ∀ w323 : World, w323 = World.setCell w322 (⟨r320, 0, none⟩ : Addr) (Value.int .i64 n294) →
                      ∃ n324 : Int, ∃ n325 : Int, ∃ n326 : Int, ∃ s327 : Slc, rowAt w323 (⟨r320, 0, none⟩ : Addr) 0 [(Value.int .i64 n324), (Value.int .i64 n325), (Value.int .i64 n326), (Slc.v s327)] ∧
                      ∃ (mb328 : Nat) (es329 : Array MapEntry) (ck330 : Nat) (es331 : Array MapEntry) (ck332 : Nat), (some r12) = some mb328 ∧ (World.heap (w323))[mb328]? = some (.map es329 ck330) ∧ mapPut (.int .i64) (Value.int .i64 n294) (Value.agg ⟨[(Value.int .i64 n324), (Value.int .i64 n325), (Value.int .i64 n326), (Slc.v s327)]⟩) es329 ck330 = some (es331, ck332) ∧ ∀ w333 : World, w333 = setObjW w323 mb328 (.map es331 ck332) →
                      Calls Tryd.prog fn_net_Net_Waiting ⟨[(Value.pointer p10)]⟩ w333 fun e334 w335 =>
                      ∃ s336 : Slc, e334 = .returned (Slc.v s336) ∧
                      ∃ es337 : Array MapEntry, mapIs w335 (some r12) es337 ∧
                      BIf (!decide (((s336.l : Nat) : Int) = (((Array.size es337) : Nat) : Int))) (
                        K (Value.bool false) w335) (
                        inR .i64 (i16 + (1 : Int)) ∧
                        (I14 ((i16 + (1 : Int))) w335 ∧ mu15 ((i16 + (1 : Int))) w335 < mu15 i16 w17))))) (
                      Calls Tryd.prog fn_net_Net_Waiting ⟨[(Value.pointer p10)]⟩ w293 fun e338 w339 =>
                      ∃ s340 : Slc, e338 = .returned (Slc.v s340) ∧
                      ∃ es341 : Array MapEntry, mapIs w339 (some r12) es341 ∧
                      BIf (!decide (((s340.l : Nat) : Int) = (((Array.size es341) : Nat) : Int))) (
                        K (Value.bool false) w339) (
                        inR .i64 (i16 + (1 : Int)) ∧
                        (I14 ((i16 + (1 : Int))) w339 ∧ mu15 ((i16 + (1 : Int))) w339 < mu15 i16 w17)))) (
                    Calls Tryd.prog fn_net_Net_Waiting ⟨[(Value.pointer p10)]⟩ w163 fun e342 w343 =>
                    ∃ s344 : Slc, e342 = .returned (Slc.v s344) ∧
                    ∃ es345 : Array MapEntry, mapIs w343 (some r12) es345 ∧
                    BIf (!decide (((s344.l : Nat) : Int) = (((Array.size es345) : Nat) : Int))) (
                      K (Value.bool false) w343) (
                      inR .i64 (i16 + (1 : Int)) ∧
                      (I14 ((i16 + (1 : Int))) w343 ∧ mu15 ((i16 + (1 : Int))) w343 < mu15 i16 w17))))))) (
            K (Value.bool true) w17)))))

theorem tidewaterlaw32_NetSent_eq (list1 : Slc) (w : World) (K : Value → World → Prop) : tidewaterlaw32_NetSent list1 w K = denF Tryd.prog callB Tryd.f3 (.two .none (.two .none (.two .none (.two .none (.two .none (.two .none (.two (.two .none (.one (.loop [(32, (Sh.int .i64))] [2, 7, 8, 9, 10, 11, 12, 13, 14, 15, 16, 17, 18, 33, 34, 35, 36, 37, 38, 39, 40, 41, 42, 43, 44, 45, 46, 47, 48, 49, 50, 51, 52, 53, 54, 55, 56, 57, 58, 59, 60, 61, 62, 63, 64, 65, 66, 67, 68, 69, 70, 71, 72, 73, 74, 75, 76, 77, 78, 79, 80, 81, 82, 83, 84, 85, 86, 87, 88, 89, 90, 91, 92, 93, 94, 95, 96, 97, 98, 99, 100, 101, 102, 103, 104, 105, 106, 107, 108, 109, 110, 111, 112, 113, 114, 115, 116, 117, 118, 119, 120, 121, 122, 123, 124, 125, 126, 127, 128, 129, 130, 131, 132, 133, 134, 135, 136, 137, 138, 139, 140, 141, 142, 143, 144, 145, 146, 147, 148, 149, 150, 151, 152, 153, 154, 155, 156] .none))) .none))))))) [(Slc.v list1)] w K := by kernel_rfl
theorem tidewaterlaw32_NetSent_ok (list1 : Slc) {w : World} {R : Ending → World → Prop} (h : tidewaterlaw32_NetSent list1 w fun v w' => R (.returned v) w') : Calls Tryd.prog fn_tidewaterlaw32_NetSent ⟨[(Slc.v list1)]⟩ w R :=
  calls_of_den callB_ok mixed Tryd.func3 (tidewaterlaw32_NetSent_eq list1 w _ ▸ h)

/-- tidewater/tidewaterlaw32.NetPlays -/
def tidewaterlaw32_NetPlays (n1 : Int) (list2 : Slc) (w : World) (K : Value → World → Prop) : Prop :=
  Calls Tryd.prog fn_tidewaterlaw32_alive ⟨[]⟩ w fun e3 w4 =>
  ∃ b5 : Bool, e3 = .returned (Value.bool b5) ∧
  BIf (!b5) (
    K (Value.bool false) w4) (
    Calls Tryd.prog fn_tidewaterlaw32_long ⟨[(Slc.v list2)]⟩ w4 fun e6 w7 =>
    ∃ b8 : Bool, e6 = .returned (Value.bool b8) ∧
    BIf b8 (
      K (Value.bool true) w7) (
      Calls Tryd.prog fn_net_New ⟨[(Value.int .i64 n1)]⟩ w7 fun e9 w10 =>
      ∃ p11 : Option Addr, ∃ e12 : Value, e9 = .returned (Value.tuple ⟨[(Value.pointer p11), e12]⟩) ∧
      ∃ J13 : World → Prop,
      (
        BIf (decide (n1 < (1 : Int))) (
          BIf (Option.isNone (p11 : Option Addr)) (
            Calls Tryd.prog fn_tidewaternum_Num ⟨[e12]⟩ w10 fun e14 w15 =>
            ∃ n16 : Int, e14 = .returned (Value.int .i64 n16) ∧
            K (Value.bool (decide (n16 = (1 : Int)))) w15) (
            K (Value.bool false) w10)) (
          BIf (decide ((16 : Int) < n1)) (
            BIf (Option.isNone (p11 : Option Addr)) (
              Calls Tryd.prog fn_tidewaternum_Num ⟨[e12]⟩ w10 fun e17 w18 =>
              ∃ n19 : Int, e17 = .returned (Value.int .i64 n19) ∧
              K (Value.bool (decide (n19 = (1 : Int)))) w18) (
              K (Value.bool false) w10)) (
            J13 w10))) ∧ (
      ∀ w20 : World, J13 w20 → ∀ u21 u22 u23 u24 u25 u26 u27 u28 u29 u30 u31 u32 u33 u34 : Value,
        ∃ J35 : World → Prop,
        (
          isI e12 ∧
          BIf (!isNilI e12) (
            K (Value.bool false) w20) (
            BIf (Option.isNone (p11 : Option Addr)) (
              K (Value.bool false) w20) (
              J35 w20))) ∧ (
        ∀ w36 : World, J35 w36 → ∀ u37 u38 u39 u40 u41 u42 u43 : Value,
          Calls Tryd.prog fn_tidewaterref32_New ⟨[(Value.int .i64 n1)]⟩ w36 fun e44 w45 =>
          ∃ p46 : Option Addr, e44 = .returned (Value.pointer p46) ∧
          ∃ (I47 : (Int) → World → Prop) (mu48 : (Int) → World → Nat), I47 ((0 : Int)) w45 ∧ (
          ∀ i49 : Int, ∀ w50 : World, I47 i49 w50 → ∀ u51 u52 u53 u54 u55 u56 u57 u58 u59 u60 u61 u62 u63 u64 u65 u66 u67 u68 : Value,
            BIf (decide (i49 < ((list2.l : Nat) : Int))) (
              needSome list2.p fun a69 =>
              0 ≤ i49 ∧ i49 < ((list2.l : Nat) : Int) ∧
              ∃ n70 : Int, ∃ n71 : Int, ∃ n72 : Int, ∃ s73 : Slc, ∃ s74 : Slc, rowAt w50 (Addr.add a69 ((Int.toNat i49) * 5)) 0 [(Value.int .i64 n70), (Value.int .i64 n71), (Value.int .i64 n72), (Slc.v s73), (Slc.v s74)] ∧
              newS w50 (.cells ⟨[(Value.int .i64 (0 : Int)), (Value.int .i64 (0 : Int)), (Value.int .i64 (0 : Int)), (Slc.v (⟨none, 0, 0⟩ : Slc)), (Slc.v (⟨none, 0, 0⟩ : Slc))]⟩ 34) fun r75 w76 =>
              canW w76 (⟨r75, 0, none⟩ : Addr) 5 ∧ ∀ w77 : World, w77 = setCells w76 (⟨r75, 0, none⟩ : Addr) 0 [(Value.int .i64 n70), (Value.int .i64 n71), (Value.int .i64 n72), (Slc.v s73), (Slc.v s74)] →
              ∃ n78 : Int, ∃ n79 : Int, ∃ n80 : Int, ∃ s81 : Slc, ∃ s82 : Slc, rowAt w77 (⟨r75, 0, none⟩ : Addr) 0 [(Value.int .i64 n78), (Value.int .i64 n79), (Value.int .i64 n80), (Slc.v s81), (Slc.v s82)] ∧
              Calls Tryd.prog fn_tidewaterlaw32_do ⟨[(Value.pointer p11), (Value.pointer p46), (Value.agg ⟨[(Value.int .i64 n78), (Value.int .i64 n79), (Value.int .i64 n80), (Slc.v s81), (Slc.v s82)]⟩)]⟩ w77 fun e83 w84 =>
              ∃ b85 : Bool, e83 = .returned (Value.bool b85) ∧
              BIf (!b85) (
                K (Value.bool false) w84) (
                Calls Tryd.prog fn_tidewaterlaw32_same ⟨[(Value.pointer p11), (Value.pointer p46), (Value.int .i64 n1)]⟩ w84 fun e86 w87 =>
                ∃ b88 : Bool, e86 = .returned (Value.bool b88) ∧
                BIf (!b88) (
                  K (Value.bool false) w87) (
                  inR .i64 (i49 + (1 : Int)) ∧
                  (I47 ((i49 + (1 : Int))) w87 ∧ mu48 ((i49 + (1 : Int))) w87 < mu48 i49 w50)))) (
              K (Value.bool true) w50))))))

theorem tidewaterlaw32_NetPlays_eq (n1 : Int) (list2 : Slc) (w : World) (K : Value → World → Prop) : tidewaterlaw32_NetPlays n1 list2 w K = denF Tryd.prog callB Tryd.f4 (.two .none (.two .none (.two .none (.two .none (.cut [] [4, 19, 20, 21, 22, 23, 24, 25, 26, 27, 28, 29, 30, 31] .none (.cut [] [4, 32, 33, 34, 35, 36, 37] .none (.two .none (.two (.two .none (.one (.loop [(42, (Sh.int .i64))] [4, 9, 43, 44, 45, 46, 47, 48, 49, 50, 51, 52, 53, 54, 55, 56, 57, 58] .none))) .none)))))))) [(Value.int .i64 n1), (Slc.v list2)] w K := by kernel_rfl
theorem tidewaterlaw32_NetPlays_ok (n1 : Int) (list2 : Slc) {w : World} {R : Ending → World → Prop} (h : tidewaterlaw32_NetPlays n1 list2 w fun v w' => R (.returned v) w') : Calls Tryd.prog fn_tidewaterlaw32_NetPlays ⟨[(Value.int .i64 n1), (Slc.v list2)]⟩ w R :=
  calls_of_den callB_ok mixed Tryd.func4 (tidewaterlaw32_NetPlays_eq n1 list2 w _ ▸ h)

/-- tidewater/tidewaterlaw32.NetFlows -/
def tidewaterlaw32_NetFlows (list1 : Slc) (w : World) (K : Value → World → Prop) : Prop :=
  Calls Tryd.prog fn_tidewaterlaw32_alive ⟨[]⟩ w fun e2 w3 =>
  ∃ b4 : Bool, e2 = .returned (Value.bool b4) ∧
  BIf (!b4) (
    K (Value.bool false) w3) (
    Calls Tryd.prog fn_tidewaterlaw32_long ⟨[(Slc.v list1)]⟩ w3 fun e5 w6 =>
    ∃ b7 : Bool, e5 = .returned (Value.bool b7) ∧
    BIf b7 (
      K (Value.bool true) w6) (
      Calls Tryd.prog fn_net_New ⟨[(Value.int .i64 (4 : Int))]⟩ w6 fun e8 w9 =>
      ∃ p10 : Option Addr, ∃ e11 : Value, e8 = .returned (Value.tuple ⟨[(Value.pointer p10), e11]⟩) ∧
      isI e11 ∧
      BIf (!isNilI e11) (
        K (Value.bool false) w9) (
        Calls Tryd.prog fn_tidewaterref32_New ⟨[(Value.int .i64 (4 : Int))]⟩ w9 fun e12 w13 =>
        ∃ p14 : Option Addr, e12 = .returned (Value.pointer p14) ∧
        ∃ (I15 : (Int) → World → Prop) (mu16 : (Int) → World → Nat), I15 ((0 : Int)) w13 ∧ (
        ∀ i17 : Int, ∀ w18 : World, I15 i17 w18 → ∀ u19 u20 u21 u22 u23 u24 u25 u26 u27 u28 u29 : Value,
          BIf (decide (i17 < ((list1.l : Nat) : Int))) (
            needSome list1.p fun a30 =>
            0 ≤ i17 ∧ i17 < ((list1.l : Nat) : Int) ∧
            ∃ n31 : Int, ∃ n32 : Int, ∃ n33 : Int, ∃ s34 : Slc, ∃ s35 : Slc, rowAt w18 (Addr.add a30 ((Int.toNat i17) * 5)) 0 [(Value.int .i64 n31), (Value.int .i64 n32), (Value.int .i64 n33), (Slc.v s34), (Slc.v s35)] ∧
            newS w18 (.cells ⟨[(Value.int .i64 (0 : Int)), (Value.int .i64 (0 : Int)), (Value.int .i64 (0 : Int)), (Slc.v (⟨none, 0, 0⟩ : Slc)), (Slc.v (⟨none, 0, 0⟩ : Slc))]⟩ 34) fun r36 w37 =>
            canW w37 (⟨r36, 0, none⟩ : Addr) 5 ∧ ∀ w38 : World, w38 = setCells w37 (⟨r36, 0, none⟩ : Addr) 0 [(Value.int .i64 n31), (Value.int .i64 n32), (Value.int .i64 n33), (Slc.v s34), (Slc.v s35)] →
            ∃ n39 : Int, ∃ n40 : Int, ∃ n41 : Int, ∃ s42 : Slc, ∃ s43 : Slc, rowAt w38 (⟨r36, 0, none⟩ : Addr) 0 [(Value.int .i64 n39), (Value.int .i64 n40), (Value.int .i64 n41), (Slc.v s42), (Slc.v s43)] ∧
            Calls Tryd.prog fn_tidewaterlaw32_do ⟨[(Value.pointer p10), (Value.pointer p14), (Value.agg ⟨[(Value.int .i64 n39), (Value.int .i64 n40), (Value.int .i64 n41), (Slc.v s42), (Slc.v s43)]⟩)]⟩ w38 fun e44 w45 =>
            ∃ b46 : Bool, e44 = .returned (Value.bool b46) ∧
            BIf (!b46) (
              K (Value.bool false) w45) (
              inR .i64 (i17 + (1 : Int)) ∧
              (I15 ((i17 + (1 : Int))) w45 ∧ mu16 ((i17 + (1 : Int))) w45 < mu16 i17 w18))) (
            Calls Tryd.prog fn_net_Net_Join ⟨[(Value.pointer p10)]⟩ w18 fun e47 w48 =>
            e47 = .returned (Value.tuple #[]) ∧
            ∃ (I49 : (Int) → World → Prop) (mu50 : (Int) → World → Nat), I49 ((0 : Int)) w48 ∧ (
            ∀ i51 : Int, ∀ w52 : World, I49 i51 w52 → ∀ u53 u54 u55 u56 u57 u58 u59 : Value,
              BIf (decide (i51 < (4 : Int))) (
                Calls Tryd.prog fn_net_Net_Set ⟨[(Value.pointer p10), (Value.int .i64 i51), (Value.bool true)]⟩ w52 fun e60 w61 =>
                e60 = .returned (Value.tuple #[]) ∧
                inR .i64 (i51 + (1 : Int)) ∧
                (I49 ((i51 + (1 : Int))) w61 ∧ mu50 ((i51 + (1 : Int))) w61 < mu50 i51 w52)) (
                Calls Tryd.prog fn_net_Net_Waiting ⟨[(Value.pointer p10)]⟩ w52 fun e62 w63 =>
                ∃ s64 : Slc, e62 = .returned (Slc.v s64) ∧
                ∃ (I65 : (Int) → (Int) → World → Prop) (mu66 : (Int) → (Int) → World → Nat), I65 (((s64.l : Nat) : Int)) ((0 : Int)) w63 ∧ (
                ∀ many67 : Int, ∀ i68 : Int, ∀ w69 : World, I65 many67 i68 w69 → ∀ u70 u71 u72 u73 u74 u75 u76 u77 u78 u79 u80 u81 u82 u83 u84 u85 u86 u87 u88 u89 u90 u91 u92 u93 u94 u95 u96 u97 u98 u99 u100 u101 u102 u103 u104 u105 u106 u107 u108 : Value,
                  BIf (decide (i68 < (4 : Int))) (
                    Calls Tryd.prog fn_net_Net_First ⟨[(Value.pointer p10), (Value.int .i64 i68)]⟩ w69 fun e109 w110 =>
                    ∃ n111 : Int, e109 = .returned (Value.int .i64 n111) ∧
                    ∃ (I112 : (Int) → (Int) → (Int) → World → Prop) (mu113 : (Int) → (Int) → (Int) → World → Nat), I112 (many67) ((-1 : Int)) (n111) w110 ∧ (
                    ∀ many114 : Int, ∀ last115 : Int, ∀ n116 : Int, ∀ w117 : World, I112 many114 last115 n116 w117 → ∀ u118 u119 u120 u121 u122 u123 u124 u125 u126 u127 u128 u129 u130 u131 u132 u133 u134 u135 u136 u137 u138 u139 u140 u141 u142 u143 u144 u145 u146 u147 : Value,
                      BIf (decide ((0 : Int) ≤ n116)) (
                        Calls Tryd.prog fn_net_Net_Deliver ⟨[(Value.pointer p10), (Value.int .i64 n116)]⟩ w117 fun e148 w149 =>
                        ∃ x150 : Int, ∃ x151 : Int, ∃ x152 : Int, ∃ x153 : Slc, ∃ e154 : Value, e148 = .returned (Value.tuple ⟨[(Value.agg ⟨[(Value.int .i64 x150), (Value.int .i64 x151), (Value.int .i64 x152), (Slc.v x153)]⟩), e154]⟩) ∧
                        newS w149 (.cells ⟨[(Value.int .i64 (0 : Int)), (Value.int .i64 (0 : Int)), (Value.int .i64 (0 : Int)), (Slc.v (⟨none, 0, 0⟩ : Slc))]⟩ 38) fun r155 w156 =>
                        canW w156 (⟨r155, 0, none⟩ : Addr) 4 ∧ ∀ w157 : World, w157 = setCells w156 (⟨r155, 0, none⟩ : Addr) 0 [(Value.int .i64 x150), (Value.int .i64 x151), (Value.int .i64 x152), (Slc.v x153)] →
                        isI e154 ∧
                        BIf (!isNilI e154) (
                          K (Value.bool false) w157) (
                          BIf (decide (n116 ≤ last115)) (
                            K (Value.bool false) w157) (
                            ∃ n158 : Int, World.cell? w157 (⟨r155, 2, none⟩ : Addr) = some (Value.int .i64 n158) ∧
                            BIf (!decide (n158 = i68)) (
                              K (Value.bool false) w157) (
                              inR .i64 (many114 - (1 : Int)) ∧
                              Calls Tryd.prog fn_net_Net_First ⟨[(Value.pointer p10), (Value.int .i64 i68)]⟩ w157 fun e159 w160 =>
                              ∃ n161 : Int, e159 = .returned (Value.int .i64 n161) ∧
                              (I112 ((many114 - (1 : Int))) (n116) (n161) w160 ∧ mu113 ((many114 - (1 : Int))) (n116) (n161) w160 < mu113 many114 last115 n116 w117))))) (
                        inR .i64 (i68 + (1 : Int)) ∧
                        (I65 (many114) ((i68 + (1 : Int))) w117 ∧ mu66 (many114) ((i68 + (1 : Int))) w117 < mu66 many67 i68 w69)))) (
                    BIf (decide (many67 = (0 : Int))) (
                      Calls Tryd.prog fn_net_Net_Waiting ⟨[(Value.pointer p10)]⟩ w69 fun e162 w163 =>
                      ∃ s164 : Slc, e162 = .returned (Slc.v s164) ∧
                      K (Value.bool (decide (((s164.l : Nat) : Int) = (0 : Int)))) w163) (
                      K (Value.bool false) w69))))))))))

theorem tidewaterlaw32_NetFlows_eq (list1 : Slc) (w : World) (K : Value → World → Prop) : tidewaterlaw32_NetFlows list1 w K = denF Tryd.prog callB Tryd.f5 (.two .none (.two .none (.two .none (.two .none (.two .none (.two .none (.two (.two .none (.one (.loop [(28, (Sh.int .i64))] [2, 7, 29, 30, 31, 32, 33, 34, 35, 36, 37] .none))) (.two .none (.two (.two .none (.one (.loop [(40, (Sh.int .i64))] [8, 41, 42, 43, 44, 45, 46] .none))) (.two .none (.two (.two .none (.one (.loop [(9, (Sh.int .i64)), (50, (Sh.int .i64))] [2, 10, 11, 12, 13, 14, 51, 52, 53, 54, 55, 56, 57, 58, 59, 60, 61, 62, 63, 64, 65, 66, 67, 68, 69, 70, 71, 72, 73, 74, 75, 76, 77, 78, 79, 80, 81, 82, 83] (.two .none (.two .none (.two (.one (.two .none (.two .none (.two .none (.one (.loop [(9, (Sh.int .i64)), (11, (Sh.int .i64)), (12, (Sh.int .i64))] [2, 13, 14, 56, 57, 58, 59, 60, 61, 62, 63, 64, 65, 66, 67, 68, 69, 70, 71, 72, 73, 74, 75, 76, 77, 78, 79, 80, 81, 82] .none)))))) .none)))))) .none))))))))))) [(Slc.v list1)] w K := by kernel_rfl
theorem tidewaterlaw32_NetFlows_ok (list1 : Slc) {w : World} {R : Ending → World → Prop} (h : tidewaterlaw32_NetFlows list1 w fun v w' => R (.returned v) w') : Calls Tryd.prog fn_tidewaterlaw32_NetFlows ⟨[(Slc.v list1)]⟩ w R :=
  calls_of_den callB_ok mixed Tryd.func5 (tidewaterlaw32_NetFlows_eq list1 w _ ▸ h)

end Go.D
