/-
  WHAT IS PROVED: verification conditions of functions of this program, each with its soundness. No further conditions.
-/
import Derived.Test.YtbeciidagekppaaGreatDoorBase
set_option linter.unusedSimpArgs false
set_option maxRecDepth 100000
set_option linter.unusedVariables false
namespace Go.D
open Go Go.Proofs
/-- tidewater/tidewaterref08.need -/
def tidewaterref08_need (b1 : Slc) (w : World) (K : Value → World → Prop) : Prop :=
  inR .i64 (((b1.l : Nat) : Int) + (63 : Int)) ∧
  0 ≤ (((b1.l : Nat) : Int) + (63 : Int)) ∧ 0 < (64 : Int) ∧ inR .i64 (((b1.l : Nat) : Int) + (63 : Int)) ∧
  inR .i64 ((1 : Int) + ((((b1.l : Nat) : Int) + (63 : Int)) / (64 : Int))) ∧
  K (Value.int .i64 ((1 : Int) + ((((b1.l : Nat) : Int) + (63 : Int)) / (64 : Int)))) w

theorem tidewaterref08_need_eq (b1 : Slc) (w : World) (K : Value → World → Prop) : tidewaterref08_need b1 w K = denF Tryz.prog callB Tryz.f72 .none [(Slc.v b1)] w K := by kernel_rfl
theorem tidewaterref08_need_ok (b1 : Slc) {w : World} {R : Ending → World → Prop} (h : tidewaterref08_need b1 w fun v w' => R (.returned v) w') : Calls Tryz.prog fn_tidewaterref08_need ⟨[(Slc.v b1)]⟩ w R :=
  calls_of_den callB_ok mixed Tryz.func72 (tidewaterref08_need_eq b1 w _ ▸ h)

/-- (*tidewater/tidewaterref08.Store).Take -/
def tidewaterref08_Store_Take (s1 : Option Addr) (w : World) (K : Value → World → Prop) : Prop :=
  needSome s1 fun a2 =>
  ∃ n3 : Int, World.cell? w a2 = some (Value.int .i64 n3) ∧
  inR .i64 (n3 - (1 : Int)) ∧
  ∃ (I4 : (Int) → (Int) → World → Prop) (mu5 : (Int) → (Int) → World → Nat), I4 ((-1 : Int)) ((n3 - (1 : Int))) w ∧ (
  ∀ at6 : Int, ∀ p7 : Int, ∀ w8 : World, I4 at6 p7 w8 → ∀ u9 u10 u11 u12 u13 u14 u15 u16 u17 u18 u19 u20 u21 u22 u23 u24 u25 u26 u27 u28 u29 u30 u31 u32 u33 u34 : Value,
    BIf (decide ((0 : Int) ≤ p7)) (
      needSome s1 fun a35 =>
      ∃ s36 : Slc, World.cell? w8 (a35.add 1) = some (Slc.v s36) ∧
      ∃ (I37 : (Bool) → (Int) → World → Prop) (mu38 : (Bool) → (Int) → World → Nat), I37 (false) ((0 : Int)) w8 ∧ (
      ∀ taken39 : Bool, ∀ i40 : Int, ∀ w41 : World, I37 taken39 i40 w41 → ∀ u42 u43 u44 u45 u46 u47 u48 u49 u50 u51 u52 u53 : Value,
        BIf (decide (i40 < ((s36.l : Nat) : Int))) (
          needSome s36.p fun a54 =>
          0 ≤ i40 ∧ i40 < ((s36.l : Nat) : Int) ∧
          ∃ n55 : Int, ∃ n56 : Int, ∃ n57 : Int, ∃ s58 : Slc, rowAt w41 (Addr.add a54 ((Int.toNat i40) * 4)) 0 [(Value.int .i64 n55), (Value.int .i64 n56), (Value.int .i64 n57), (Slc.v s58)] ∧
          newS w41 (.cells ⟨[(Value.int .i64 (0 : Int)), (Value.int .i64 (0 : Int)), (Value.int .i64 (0 : Int)), (Slc.v (⟨none, 0, 0⟩ : Slc))]⟩ 101) fun r59 w60 =>
          canW w60 (⟨r59, 0, none⟩ : Addr) 4 ∧ ∀ w61 : World, w61 = setCells w60 (⟨r59, 0, none⟩ : Addr) 0 [(Value.int .i64 n55), (Value.int .i64 n56), (Value.int .i64 n57), (Slc.v s58)] →
          BIf taken39 (
            inR .i64 (i40 + (1 : Int)) ∧
            (I37 (true) ((i40 + (1 : Int))) w61 ∧ mu38 (true) ((i40 + (1 : Int))) w61 < mu38 taken39 i40 w41)) (
            ∃ n62 : Int, World.cell? w61 (⟨r59, 0, none⟩ : Addr) = some (Value.int .i64 n62) ∧
            inR .i64 (i40 + (1 : Int)) ∧
            (I37 ((decide (n62 = p7))) ((i40 + (1 : Int))) w61 ∧ mu38 ((decide (n62 = p7))) ((i40 + (1 : Int))) w61 < mu38 taken39 i40 w41))) (
          BIf (!taken39) (
            inR .i64 (p7 - (1 : Int)) ∧
            (I4 (p7) ((p7 - (1 : Int))) w41 ∧ mu5 (p7) ((p7 - (1 : Int))) w41 < mu5 at6 p7 w8)) (
            inR .i64 (p7 - (1 : Int)) ∧
            (I4 (at6) ((p7 - (1 : Int))) w41 ∧ mu5 (at6) ((p7 - (1 : Int))) w41 < mu5 at6 p7 w8))))) (
      BIf (decide (at6 < (0 : Int))) (
        K (Value.bool false) w8) (
        ∃ J63 : (Int) → World → Prop,
        (
          needSome s1 fun a64 =>
          ∃ s65 : Slc, World.cell? w8 (a64.add 1) = some (Slc.v s65) ∧
          BIf (decide ((0 : Int) < ((s65.l : Nat) : Int))) (
            needSome s1 fun a66 =>
            ∃ s67 : Slc, World.cell? w8 (a66.add 1) = some (Slc.v s67) ∧
            inR .i64 (((s65.l : Nat) : Int) - (1 : Int)) ∧
            needSome s67.p fun a68 =>
            0 ≤ (((s65.l : Nat) : Int) - (1 : Int)) ∧ (((s65.l : Nat) : Int) - (1 : Int)) < ((s67.l : Nat) : Int) ∧
            ∃ n69 : Int, World.cell? w8 ((Addr.add a68 ((Int.toNat (((s65.l : Nat) : Int) - (1 : Int))) * 4)).add 1) = some (Value.int .i64 n69) ∧
            inR .i64 (n69 + (1 : Int)) ∧
            J63 ((n69 + (1 : Int))) w8) (
            J63 ((0 : Int)) w8)) ∧ (
        ∀ number70 : Int, ∀ w71 : World, J63 number70 w71 → ∀ u72 u73 u74 u75 u76 u77 u78 u79 u80 u81 u82 u83 u84 u85 u86 u87 u88 u89 : Value,
          needSome s1 fun a90 =>
          ∃ s91 : Slc, World.cell? w71 (a90.add 1) = some (Slc.v s91) ∧
          newS w71 (.cells ⟨[(Value.int .i64 at6), (Value.int .i64 number70), (Value.int .i64 (0 : Int)), (Slc.v (⟨none, 0, 0⟩ : Slc))]⟩ 101) fun r92 w93 =>
          appendS 4 101 [(Value.int .i64 (0 : Int)), (Value.int .i64 (0 : Int)), (Value.int .i64 (0 : Int)), (Slc.v (⟨none, 0, 0⟩ : Slc))] w93 s91 (.slc (⟨(some (⟨r92, 0, none⟩ : Addr)), 1, 1⟩ : Slc)) fun s94 w95 =>
          needSome s1 fun a96 =>
          canW w95 (a96.add 1) 1 ∧ ∀ w97 : World, w97 = World.setCell w95 (a96.add 1) (Slc.v s94) →
          K (Value.bool true) w97))))

theorem tidewaterref08_Store_Take_eq (s1 : Option Addr) (w : World) (K : Value → World → Prop) : tidewaterref08_Store_Take s1 w K = denF Tryz.prog callB Tryz.f71 (.two .none (.two .none (.two (.two .none (.one (.loop [(3, (Sh.int .i64)), (4, (Sh.int .i64))] [5, 7, 15, 16, 17, 18, 19, 20, 21, 22, 23, 24, 25, 26, 27, 28, 29, 30, 31, 32, 33, 34, 35, 36, 37, 38] (.two .none (.two (.one (.two .none (.two (.two .none (.one (.loop [(5, Sh.bool), (24, (Sh.int .i64))] [7, 25, 26, 27, 28, 29, 30, 31, 32, 33, 34, 35] .none))) .none))) .none))))) (.two .none (.two .none (.cut [(8, (Sh.int .i64))] [9, 41, 42, 43, 44, 45, 46, 47, 48, 49, 50, 51, 52, 53, 54, 55, 56, 57] .none .none)))))) [(Value.pointer s1)] w K := by kernel_rfl
theorem tidewaterref08_Store_Take_ok (s1 : Option Addr) {w : World} {R : Ending → World → Prop} (h : tidewaterref08_Store_Take s1 w fun v w' => R (.returned v) w') : Calls Tryz.prog fn_tidewaterref08_Store_Take ⟨[(Value.pointer s1)]⟩ w R :=
  calls_of_den callB_ok mixed Tryz.func71 (tidewaterref08_Store_Take_eq s1 w _ ▸ h)

/-- (*tidewater/tidewaterref08.Store).Fits -/
def tidewaterref08_Store_Fits (s1 : Option Addr) (b2 : Slc) (w : World) (K : Value → World → Prop) : Prop :=
  needSome s1 fun a3 =>
  ∃ s4 : Slc, World.cell? w (a3.add 1) = some (Slc.v s4) ∧
  BIf (decide ((0 : Int) < ((s4.l : Nat) : Int))) (
    needSome s1 fun a5 =>
    ∃ s6 : Slc, World.cell? (World.drew w) (a5.add 1) = some (Slc.v s6) ∧
    inR .i64 (((s4.l : Nat) : Int) - (1 : Int)) ∧
    needSome s6.p fun a7 =>
    0 ≤ (((s4.l : Nat) : Int) - (1 : Int)) ∧ (((s4.l : Nat) : Int) - (1 : Int)) < ((s6.l : Nat) : Int) ∧
    ∃ n8 : Int, World.cell? (World.drew w) ((Addr.add a7 ((Int.toNat (((s4.l : Nat) : Int) - (1 : Int))) * 4)).add 2) = some (Value.int .i64 n8) ∧
    Calls Tryz.prog fn_tidewaterref08_need ⟨[(Slc.v b2)]⟩ (World.drew w) fun e9 w10 =>
    ∃ n11 : Int, e9 = .returned (Value.int .i64 n11) ∧
    (∃ n12 : Int, World.cell? w10 ((Addr.add a7 ((Int.toNat (((s4.l : Nat) : Int) - (1 : Int))) * 4)).add 2) = some (Value.int .i64 n12) ∧
    (Value.int .i64 n12) = (Value.int .i64 n8)) ∧
    (∃ s13 : Slc, World.cell? w10 (a5.add 1) = some (Slc.v s13) ∧
    (Slc.v s13) = (Slc.v s6)) ∧
    inR .i64 (n8 + n11) ∧
    K (Value.bool (decide ((n8 + n11) ≤ (63 : Int)))) w10) (
    K (Value.bool false) (World.drew w))

theorem tidewaterref08_Store_Fits_eq (s1 : Option Addr) (b2 : Slc) (w : World) (K : Value → World → Prop) : tidewaterref08_Store_Fits s1 b2 w K = denF Tryz.prog callB Tryz.f70 .none [(Value.pointer s1), (Slc.v b2)] w K := by kernel_rfl
theorem tidewaterref08_Store_Fits_ok (s1 : Option Addr) (b2 : Slc) {w : World} {R : Ending → World → Prop} (h : tidewaterref08_Store_Fits s1 b2 w fun v w' => R (.returned v) w') : Calls Tryz.prog fn_tidewaterref08_Store_Fits ⟨[(Value.pointer s1), (Slc.v b2)]⟩ w R :=
  calls_of_den callB_ok mixed Tryz.func70 (tidewaterref08_Store_Fits_eq s1 b2 w _ ▸ h)

/-- (*tidewater/tidewaterref08.Store).Append -/
def tidewaterref08_Store_Append (s1 : Option Addr) (b2 : Slc) (w : World) (K : Value → World → Prop) : Prop :=
  ∃ J3 : World → Prop,
  (
    BIf (decide (((b2.l : Nat) : Int) < (1 : Int))) (
      K (Value.tuple ⟨[(Value.int .i64 (0 : Int)), (Value.int .i64 (4 : Int))]⟩) w) (
      BIf (decide ((3968 : Int) < ((b2.l : Nat) : Int))) (
        K (Value.tuple ⟨[(Value.int .i64 (0 : Int)), (Value.int .i64 (4 : Int))]⟩) w) (
        J3 w))) ∧ (
  ∀ w4 : World, J3 w4 → ∀ u5 u6 u7 u8 u9 u10 u11 u12 u13 u14 : Value,
    ∃ J15 : World → Prop,
    (
      Calls Tryz.prog fn_tidewaterref08_Store_Fits ⟨[(Value.pointer s1), (Slc.v b2)]⟩ w4 fun e16 w17 =>
      ∃ b18 : Bool, e16 = .returned (Value.bool b18) ∧
      BIf (!b18) (
        Calls Tryz.prog fn_tidewaterref08_Store_Take ⟨[(Value.pointer s1)]⟩ w17 fun e19 w20 =>
        ∃ b21 : Bool, e19 = .returned (Value.bool b21) ∧
        BIf (!b21) (
          K (Value.tuple ⟨[(Value.int .i64 (0 : Int)), (Value.int .i64 (13 : Int))]⟩) w20) (
          J15 w20)) (
        J15 w17)) ∧ (
    ∀ w22 : World, J15 w22 → ∀ u23 u24 u25 u26 u27 u28 u29 u30 u31 u32 u33 : Value,
      needSome s1 fun a34 =>
      ∃ s35 : Slc, World.cell? (World.drew w22) (a34.add 1) = some (Slc.v s35) ∧
      needSome s1 fun a36 =>
      ∃ s37 : Slc, World.cell? (World.drew w22) (a36.add 1) = some (Slc.v s37) ∧
      inR .i64 (((s37.l : Nat) : Int) - (1 : Int)) ∧
      needSome s35.p fun a38 =>
      0 ≤ (((s37.l : Nat) : Int) - (1 : Int)) ∧ (((s37.l : Nat) : Int) - (1 : Int)) < ((s35.l : Nat) : Int) ∧
      ∃ n39 : Int, World.cell? (World.drew (World.drew w22)) ((Addr.add a38 ((Int.toNat (((s37.l : Nat) : Int) - (1 : Int))) * 4)).add 2) = some (Value.int .i64 n39) ∧
      Calls Tryz.prog fn_tidewaterref08_need ⟨[(Slc.v b2)]⟩ (World.drew (World.drew w22)) fun e40 w41 =>
      ∃ n42 : Int, e40 = .returned (Value.int .i64 n42) ∧
      (∃ n43 : Int, World.cell? w41 ((Addr.add a38 ((Int.toNat (((s37.l : Nat) : Int) - (1 : Int))) * 4)).add 2) = some (Value.int .i64 n43) ∧
      (Value.int .i64 n43) = (Value.int .i64 n39)) ∧
      inR .i64 (n39 + n42) ∧
      canW w41 ((Addr.add a38 ((Int.toNat (((s37.l : Nat) : Int) - (1 : Int))) * 4)).add 2) 1 ∧ ∀ w44 : World, w44 = World.setCell w41 ((Addr.add a38 ((Int.toNat (((s37.l : Nat) : Int) - (1 : Int))) * 4)).add 2) (Value.int .i64 (n39 + n42)) →
      ∃ s45 : Slc, World.cell? (World.drew w44) ((Addr.add a38 ((Int.toNat (((s37.l : Nat) : Int) - (1 : Int))) * 4)).add 3) = some (Slc.v s45) ∧
      newS (World.drew w44) (.cells ⟨[]⟩ 5) fun r46 w47 =>
      (∃ s48 : Slc, World.cell? w47 ((Addr.add a38 ((Int.toNat (((s37.l : Nat) : Int) - (1 : Int))) * 4)).add 3) = some (Slc.v s48) ∧
      (Slc.v s48) = (Slc.v s45)) ∧
      appendS 1 5 [(Value.int .u8 (0 : Int))] w47 (⟨(some (⟨r46, 0, none⟩ : Addr)), 0, 0⟩ : Slc) (.slc b2) fun s49 w50 =>
      (∃ s51 : Slc, World.cell? w50 ((Addr.add a38 ((Int.toNat (((s37.l : Nat) : Int) - (1 : Int))) * 4)).add 3) = some (Slc.v s51) ∧
      (Slc.v s51) = (Slc.v s45)) ∧
      newS w50 (.cells ⟨[(Slc.v s49)]⟩ 45) fun r52 w53 =>
      (∃ s54 : Slc, World.cell? w53 ((Addr.add a38 ((Int.toNat (((s37.l : Nat) : Int) - (1 : Int))) * 4)).add 3) = some (Slc.v s54) ∧
      (Slc.v s54) = (Slc.v s45)) ∧
      appendS 1 45 [(Slc.v (⟨none, 0, 0⟩ : Slc))] w53 s45 (.slc (⟨(some (⟨r52, 0, none⟩ : Addr)), 1, 1⟩ : Slc)) fun s55 w56 =>
      canW w56 ((Addr.add a38 ((Int.toNat (((s37.l : Nat) : Int) - (1 : Int))) * 4)).add 3) 1 ∧ ∀ w57 : World, w57 = World.setCell w56 ((Addr.add a38 ((Int.toNat (((s37.l : Nat) : Int) - (1 : Int))) * 4)).add 3) (Slc.v s55) →
      ∃ n58 : Int, World.cell? w57 ((Addr.add a38 ((Int.toNat (((s37.l : Nat) : Int) - (1 : Int))) * 4)).add 1) = some (Value.int .i64 n58) ∧
      K (Value.tuple ⟨[(Value.int .i64 n58), (Value.int .i64 (0 : Int))]⟩) w57))

theorem tidewaterref08_Store_Append_eq (s1 : Option Addr) (b2 : Slc) (w : World) (K : Value → World → Prop) : tidewaterref08_Store_Append s1 b2 w K = denF Tryz.prog callB Tryz.f44 (.two .none (.cut [] [4, 5, 7, 8, 9, 10, 11, 12, 13, 14] .none (.cut [] [4, 5, 15, 16, 17, 18, 19, 20, 21, 22, 23] .none .none))) [(Value.pointer s1), (Slc.v b2)] w K := by kernel_rfl
theorem tidewaterref08_Store_Append_ok (s1 : Option Addr) (b2 : Slc) {w : World} {R : Ending → World → Prop} (h : tidewaterref08_Store_Append s1 b2 w fun v w' => R (.returned v) w') : Calls Tryz.prog fn_tidewaterref08_Store_Append ⟨[(Value.pointer s1), (Slc.v b2)]⟩ w R :=
  calls_of_den callB_ok mixed Tryz.func44 (tidewaterref08_Store_Append_eq s1 b2 w _ ▸ h)

/-- (*tidewater/tidewaterref08.Store).Drop -/
def tidewaterref08_Store_Drop (s1 : Option Addr) (number2 : Int) (w : World) (K : Value → World → Prop) : Prop :=
  needSome s1 fun a3 =>
  ∃ s4 : Slc, World.cell? w (a3.add 1) = some (Slc.v s4) ∧
  ∃ (I5 : (Int) → World → Prop) (mu6 : (Int) → World → Nat), I5 ((0 : Int)) w ∧ (
  ∀ i7 : Int, ∀ w8 : World, I5 i7 w8 → ∀ u9 u10 u11 u12 u13 u14 u15 u16 u17 u18 u19 u20 u21 u22 u23 u24 u25 u26 u27 u28 u29 u30 u31 u32 u33 u34 u35 u36 u37 u38 u39 u40 u41 u42 u43 u44 u45 u46 u47 : Value,
    BIf (decide (i7 < ((s4.l : Nat) : Int))) (
      needSome s4.p fun a48 =>
      0 ≤ i7 ∧ i7 < ((s4.l : Nat) : Int) ∧
      ∃ n49 : Int, ∃ n50 : Int, ∃ n51 : Int, ∃ s52 : Slc, rowAt w8 (Addr.add a48 ((Int.toNat i7) * 4)) 0 [(Value.int .i64 n49), (Value.int .i64 n50), (Value.int .i64 n51), (Slc.v s52)] ∧
      newS w8 (.cells ⟨[(Value.int .i64 (0 : Int)), (Value.int .i64 (0 : Int)), (Value.int .i64 (0 : Int)), (Slc.v (⟨none, 0, 0⟩ : Slc))]⟩ 101) fun r53 w54 =>
      canW w54 (⟨r53, 0, none⟩ : Addr) 4 ∧ ∀ w55 : World, w55 = setCells w54 (⟨r53, 0, none⟩ : Addr) 0 [(Value.int .i64 n49), (Value.int .i64 n50), (Value.int .i64 n51), (Slc.v s52)] →
      ∃ n56 : Int, World.cell? w55 (⟨r53, 1, none⟩ : Addr) = some (Value.int .i64 n56) ∧
      BIf (!decide (n56 = number2)) (
        inR .i64 (i7 + (1 : Int)) ∧
        (I5 ((i7 + (1 : Int))) w55 ∧ mu6 ((i7 + (1 : Int))) w55 < mu6 i7 w8)) (
        needSome s1 fun a57 =>
        ∃ s58 : Slc, World.cell? w55 (a57.add 1) = some (Slc.v s58) ∧
        inR .i64 (((s58.l : Nat) : Int) - (1 : Int)) ∧
        BIf (decide (i7 = (((s58.l : Nat) : Int) - (1 : Int)))) (
          K (Value.int .i64 (17 : Int)) w55) (
          needSome s1 fun a59 =>
          ∃ s60 : Slc, World.cell? (World.drew w55) (a59.add 1) = some (Slc.v s60) ∧
          0 ≤ (0 : Int) ∧ (0 : Int) ≤ i7 ∧ i7 ≤ ((s60.c : Nat) : Int) ∧ ((s60.c : Nat) : Int) ≤ ((s60.c : Nat) : Int) ∧
          needSome s1 fun a62 =>
          ∃ s63 : Slc, World.cell? (World.drew w55) (a62.add 1) = some (Slc.v s63) ∧
          inR .i64 (i7 + (1 : Int)) ∧
          0 ≤ (i7 + (1 : Int)) ∧ (i7 + (1 : Int)) ≤ ((s63.l : Nat) : Int) ∧ ((s63.l : Nat) : Int) ≤ ((s63.c : Nat) : Int) ∧ ((s63.c : Nat) : Int) ≤ ((s63.c : Nat) : Int) ∧
          newS (World.drew w55) (.cells ⟨[]⟩ 101) fun r65 w66 =>
          (∃ s67 : Slc, World.cell? w66 (a62.add 1) = some (Slc.v s67) ∧
          (Slc.v s67) = (Slc.v s63)) ∧
          (∃ s68 : Slc, World.cell? w66 (a59.add 1) = some (Slc.v s68) ∧
          (Slc.v s68) = (Slc.v s60)) ∧
          appendS 4 101 [(Value.int .i64 (0 : Int)), (Value.int .i64 (0 : Int)), (Value.int .i64 (0 : Int)), (Slc.v (⟨none, 0, 0⟩ : Slc))] w66 (⟨(some (⟨r65, 0, none⟩ : Addr)), 0, 0⟩ : Slc) (.slc (Slc.sub s60 4 0 (Int.toNat i7) s60.c)) fun s69 w70 =>
          (∃ s71 : Slc, World.cell? w70 (a62.add 1) = some (Slc.v s71) ∧
          (Slc.v s71) = (Slc.v s63)) ∧
          appendS 4 101 [(Value.int .i64 (0 : Int)), (Value.int .i64 (0 : Int)), (Value.int .i64 (0 : Int)), (Slc.v (⟨none, 0, 0⟩ : Slc))] w70 s69 (.slc (Slc.sub s63 4 (Int.toNat (i7 + (1 : Int))) s63.l s63.c)) fun s72 w73 =>
          needSome s1 fun a74 =>
          canW w73 (a74.add 1) 1 ∧ ∀ w75 : World, w75 = World.setCell w73 (a74.add 1) (Slc.v s72) →
          K (Value.int .i64 (0 : Int)) w75))) (
      K (Value.int .i64 (16 : Int)) w8))

theorem tidewaterref08_Store_Drop_eq (s1 : Option Addr) (number2 : Int) (w : World) (K : Value → World → Prop) : tidewaterref08_Store_Drop s1 number2 w K = denF Tryz.prog callB Tryz.f49 (.two .none (.two (.two .none (.one (.loop [(12, (Sh.int .i64))] [4, 5, 6, 13, 14, 15, 16, 17, 18, 19, 20, 21, 22, 23, 24, 25, 26, 27, 28, 29, 30, 31, 32, 33, 34, 35, 36, 37, 38, 39, 40, 41, 42, 43, 44, 45, 46, 47, 48] .none))) .none)) [(Value.pointer s1), (Value.int .i64 number2)] w K := by kernel_rfl
theorem tidewaterref08_Store_Drop_ok (s1 : Option Addr) (number2 : Int) {w : World} {R : Ending → World → Prop} (h : tidewaterref08_Store_Drop s1 number2 w fun v w' => R (.returned v) w') : Calls Tryz.prog fn_tidewaterref08_Store_Drop ⟨[(Value.pointer s1), (Value.int .i64 number2)]⟩ w R :=
  calls_of_den callB_ok mixed Tryz.func49 (tidewaterref08_Store_Drop_eq s1 number2 w _ ▸ h)

/-- (*tidewater/tidewaterref08.Store).Copy -/
def tidewaterref08_Store_Copy (s1 : Option Addr) (w : World) (K : Value → World → Prop) : Prop :=
  needSome s1 fun a2 =>
  ∃ n3 : Int, World.cell? w a2 = some (Value.int .i64 n3) ∧
  newS w (.cells ⟨[(Value.int .i64 n3), (Slc.v (⟨none, 0, 0⟩ : Slc))]⟩ 73) fun r4 w5 =>
  needSome s1 fun a6 =>
  ∃ s7 : Slc, World.cell? w5 (a6.add 1) = some (Slc.v s7) ∧
  ∃ (I8 : (Int) → World → Prop) (mu9 : (Int) → World → Nat), I8 ((0 : Int)) w5 ∧ (
  ∀ i10 : Int, ∀ w11 : World, I8 i10 w11 → ∀ u12 u13 u14 u15 u16 u17 u18 u19 u20 u21 u22 u23 u24 u25 u26 u27 u28 u29 u30 u31 : Value,
    BIf (decide (i10 < ((s7.l : Nat) : Int))) (
      needSome s7.p fun a32 =>
      0 ≤ i10 ∧ i10 < ((s7.l : Nat) : Int) ∧
      ∃ n33 : Int, ∃ n34 : Int, ∃ n35 : Int, ∃ s36 : Slc, rowAt w11 (Addr.add a32 ((Int.toNat i10) * 4)) 0 [(Value.int .i64 n33), (Value.int .i64 n34), (Value.int .i64 n35), (Slc.v s36)] ∧
      newS w11 (.cells ⟨[(Value.int .i64 (0 : Int)), (Value.int .i64 (0 : Int)), (Value.int .i64 (0 : Int)), (Slc.v (⟨none, 0, 0⟩ : Slc))]⟩ 101) fun r37 w38 =>
      canW w38 (⟨r37, 0, none⟩ : Addr) 4 ∧ ∀ w39 : World, w39 = setCells w38 (⟨r37, 0, none⟩ : Addr) 0 [(Value.int .i64 n33), (Value.int .i64 n34), (Value.int .i64 n35), (Slc.v s36)] →
      newS w39 (.cells ⟨[]⟩ 45) fun r40 w41 =>
      ∃ s42 : Slc, World.cell? w41 (⟨r37, 3, none⟩ : Addr) = some (Slc.v s42) ∧
      appendS 1 45 [(Slc.v (⟨none, 0, 0⟩ : Slc))] w41 (⟨(some (⟨r40, 0, none⟩ : Addr)), 0, 0⟩ : Slc) (.slc s42) fun s43 w44 =>
      canW w44 (⟨r37, 3, none⟩ : Addr) 1 ∧ ∀ w45 : World, w45 = World.setCell w44 (⟨r37, 3, none⟩ : Addr) (Slc.v s43) →
      ∃ s46 : Slc, World.cell? (World.drew w45) (⟨r4, 1, none⟩ : Addr) = some (Slc.v s46) ∧
      ∃ n47 : Int, ∃ n48 : Int, ∃ n49 : Int, ∃ s50 : Slc, rowAt (World.drew w45) (⟨r37, 0, none⟩ : Addr) 0 [(Value.int .i64 n47), (Value.int .i64 n48), (Value.int .i64 n49), (Slc.v s50)] ∧
      newS (World.drew w45) (.cells ⟨[(Value.int .i64 n47), (Value.int .i64 n48), (Value.int .i64 n49), (Slc.v s50)]⟩ 101) fun r51 w52 =>
      (∃ s53 : Slc, World.cell? w52 (⟨r4, 1, none⟩ : Addr) = some (Slc.v s53) ∧
      (Slc.v s53) = (Slc.v s46)) ∧
      appendS 4 101 [(Value.int .i64 (0 : Int)), (Value.int .i64 (0 : Int)), (Value.int .i64 (0 : Int)), (Slc.v (⟨none, 0, 0⟩ : Slc))] w52 s46 (.slc (⟨(some (⟨r51, 0, none⟩ : Addr)), 1, 1⟩ : Slc)) fun s54 w55 =>
      canW w55 (⟨r4, 1, none⟩ : Addr) 1 ∧ ∀ w56 : World, w56 = World.setCell w55 (⟨r4, 1, none⟩ : Addr) (Slc.v s54) →
      inR .i64 (i10 + (1 : Int)) ∧
      (I8 ((i10 + (1 : Int))) w56 ∧ mu9 ((i10 + (1 : Int))) w56 < mu9 i10 w11)) (
      K (Value.pointer (some (⟨r4, 0, none⟩ : Addr))) w11))

theorem tidewaterref08_Store_Copy_eq (s1 : Option Addr) (w : World) (K : Value → World → Prop) : tidewaterref08_Store_Copy s1 w K = denF Tryz.prog callB Tryz.f38 (.two .none (.two .none (.two (.two .none (.one (.loop [(17, (Sh.int .i64))] [5, 18, 19, 20, 21, 22, 23, 24, 25, 26, 27, 28, 29, 30, 31, 32, 33, 34, 35, 36] .none))) .none))) [(Value.pointer s1)] w K := by kernel_rfl
theorem tidewaterref08_Store_Copy_ok (s1 : Option Addr) {w : World} {R : Ending → World → Prop} (h : tidewaterref08_Store_Copy s1 w fun v w' => R (.returned v) w') : Calls Tryz.prog fn_tidewaterref08_Store_Copy ⟨[(Value.pointer s1)]⟩ w R :=
  calls_of_den callB_ok mixed Tryz.func38 (tidewaterref08_Store_Copy_eq s1 w _ ▸ h)

end Go.D
