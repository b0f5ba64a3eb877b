/-
  WHAT IS PROVED: verification conditions of functions of this program, each with its soundness. No further conditions.
-/
import Derived.Test.YtecmadidakoppaaDoorBase
set_option linter.unusedSimpArgs false
set_option maxRecDepth 100000
set_option linter.unusedVariables false
namespace Go.D
open Go Go.Proofs
/-- tidewater/tidewaterlaw10.alive -/
def tidewaterlaw10_alive  (w : World) (K : Value → World → Prop) : Prop :=
  newS w (.cells ⟨[(Value.int .i64 (0 : Int))]⟩ 3) fun r1 w2 =>
  newS w2 (.cells ⟨[(Value.int .i64 (1 : Int))]⟩ 3) fun r3 w4 =>
  newS w4 (.cells ⟨[(Slc.v (⟨(some (⟨r1, 0, none⟩ : Addr)), 1, 1⟩ : Slc)), (Slc.v (⟨(some (⟨r3, 0, none⟩ : Addr)), 1, 1⟩ : Slc))]⟩ 25) fun r5 w6 =>
  Calls Tryd.prog fn_plan_Place ⟨[(Value.agg ⟨[(Value.int .i64 (0 : Int)), (Slc.v (⟨(some (⟨r5, 0, none⟩ : Addr)), 2, 2⟩ : Slc))]⟩), (Value.int .i64 (5 : Int))]⟩ w6 fun e7 w8 =>
  ∃ n9 : Int, ∃ n10 : Int, ∃ e11 : Value, e7 = .returned (Value.tuple ⟨[(Value.int .i64 n9), (Value.int .i64 n10), e11]⟩) ∧
  isI e11 ∧
  BIf (isNilI e11) (
    BIf (decide (n9 = (1 : Int))) (
      K (Value.bool (decide (n10 = (2 : Int)))) w8) (
      K (Value.bool false) w8)) (
    K (Value.bool false) w8)

theorem tidewaterlaw10_alive_eq  (w : World) (K : Value → World → Prop) : tidewaterlaw10_alive  w K = denF Tryd.prog callB Tryd.f6 .none [] w K := by kernel_rfl
theorem tidewaterlaw10_alive_ok  {w : World} {R : Ending → World → Prop} (h : tidewaterlaw10_alive  w fun v w' => R (.returned v) w') : Calls Tryd.prog fn_tidewaterlaw10_alive ⟨[]⟩ w R :=
  calls_of_den callB_ok mixed Tryd.func6 (tidewaterlaw10_alive_eq  w _ ▸ h)

/-- tidewater/tidewaterlaw10.long -/
def tidewaterlaw10_long (p1 : Int) (p2 : Slc) (w : World) (K : Value → World → Prop) : Prop :=
  newS w (.cells ⟨[(Value.int .i64 p1), (Slc.v p2)]⟩ 24) fun r3 w4 =>
  ∃ s5 : Slc, World.cell? w4 (⟨r3, 1, none⟩ : Addr) = some (Slc.v s5) ∧
  BIf (decide ((10 : Int) < ((s5.l : Nat) : Int))) (
    K (Value.bool true) w4) (
    ∃ s6 : Slc, World.cell? w4 (⟨r3, 1, none⟩ : Addr) = some (Slc.v s6) ∧
    ∃ (I7 : (Int) → World → Prop) (mu8 : (Int) → World → Nat), I7 ((0 : Int)) w4 ∧ (
    ∀ i9 : Int, ∀ w10 : World, I7 i9 w10 → ∀ u11 u12 u13 u14 u15 u16 u17 u18 u19 : Value,
      BIf (decide (i9 < ((s6.l : Nat) : Int))) (
        needSome s6.p fun a20 =>
        0 ≤ i9 ∧ i9 < ((s6.l : Nat) : Int) ∧
        ∃ s21 : Slc, World.cell? w10 (Addr.add a20 ((Int.toNat i9) * 1)) = some (Slc.v s21) ∧
        BIf (decide ((10 : Int) < ((s21.l : Nat) : Int))) (
          K (Value.bool true) w10) (
          inR .i64 (i9 + (1 : Int)) ∧
          (I7 ((i9 + (1 : Int))) w10 ∧ mu8 ((i9 + (1 : Int))) w10 < mu8 i9 w10))) (
        K (Value.bool false) w10)))

theorem tidewaterlaw10_long_eq (p1 : Int) (p2 : Slc) (w : World) (K : Value → World → Prop) : tidewaterlaw10_long p1 p2 w K = denF Tryd.prog callB Tryd.f7 (.two .none (.two .none (.two (.two .none (.one (.loop [(12, (Sh.int .i64))] [2, 4, 13, 14, 15, 16, 17, 18, 19] .none))) .none))) [(Value.agg ⟨[(Value.int .i64 p1), (Slc.v p2)]⟩)] w K := by kernel_rfl
theorem tidewaterlaw10_long_ok (p1 : Int) (p2 : Slc) {w : World} {R : Ending → World → Prop} (h : tidewaterlaw10_long p1 p2 w fun v w' => R (.returned v) w') : Calls Tryd.prog fn_tidewaterlaw10_long ⟨[(Value.agg ⟨[(Value.int .i64 p1), (Slc.v p2)]⟩)]⟩ w R :=
  calls_of_den callB_ok mixed Tryd.func7 (tidewaterlaw10_long_eq p1 p2 w _ ▸ h)

/-- tidewater/tidewaterlaw10.below -/
def tidewaterlaw10_below (p1 : Int) (p2 : Slc) (tails3 : Slc) (a4 : Int) (w : World) (K : Value → World → Prop) : Prop :=
  newS w (.cells ⟨[(Value.int .i64 p1), (Slc.v p2)]⟩ 24) fun r5 w6 =>
  ∃ n7 : Int, ∃ s8 : Slc, rowAt w6 (⟨r5, 0, none⟩ : Addr) 0 [(Value.int .i64 n7), (Slc.v s8)] ∧
  Calls Tryd.prog fn_plan_Place ⟨[(Value.agg ⟨[(Value.int .i64 n7), (Slc.v s8)]⟩), (Value.int .i64 a4)]⟩ w6 fun e9 w10 =>
  ∃ n11 : Int, ∃ n12 : Int, ∃ e13 : Value, e9 = .returned (Value.tuple ⟨[(Value.int .i64 n11), (Value.int .i64 n12), e13]⟩) ∧
  isI e13 ∧
  BIf (isNilI e13) (
    BIf (decide (n11 < ((tails3.l : Nat) : Int))) (
      needSome tails3.p fun a14 =>
      0 ≤ n11 ∧ n11 < ((tails3.l : Nat) : Int) ∧
      ∃ n15 : Int, World.cell? w10 (Addr.add a14 ((Int.toNat n11) * 1)) = some (Value.int .i64 n15) ∧
      K (Value.bool (decide (n12 < n15))) w10) (
      K (Value.bool false) w10)) (
    K (Value.bool false) w10)

theorem tidewaterlaw10_below_eq (p1 : Int) (p2 : Slc) (tails3 : Slc) (a4 : Int) (w : World) (K : Value → World → Prop) : tidewaterlaw10_below p1 p2 tails3 a4 w K = denF Tryd.prog callB Tryd.f10 .none [(Value.agg ⟨[(Value.int .i64 p1), (Slc.v p2)]⟩), (Slc.v tails3), (Value.int .i64 a4)] w K := by kernel_rfl
theorem tidewaterlaw10_below_ok (p1 : Int) (p2 : Slc) (tails3 : Slc) (a4 : Int) {w : World} {R : Ending → World → Prop} (h : tidewaterlaw10_below p1 p2 tails3 a4 w fun v w' => R (.returned v) w') : Calls Tryd.prog fn_tidewaterlaw10_below ⟨[(Value.agg ⟨[(Value.int .i64 p1), (Slc.v p2)]⟩), (Slc.v tails3), (Value.int .i64 a4)]⟩ w R :=
  calls_of_den callB_ok mixed Tryd.func10 (tidewaterlaw10_below_eq p1 p2 tails3 a4 w _ ▸ h)

/-- tidewater/tidewaterlaw10.PlanTails -/
def tidewaterlaw10_PlanTails (p1 : Int) (p2 : Slc) (tails3 : Slc) (a4 : Int) (w : World) (K : Value → World → Prop) : Prop :=
  newS w (.cells ⟨[(Value.int .i64 p1), (Slc.v p2)]⟩ 24) fun r5 w6 =>
  Calls Tryd.prog fn_tidewaterlaw10_alive ⟨[]⟩ w6 fun e7 w8 =>
  ∃ b9 : Bool, e7 = .returned (Value.bool b9) ∧
  BIf (!b9) (
    K (Value.bool false) w8) (
    ∃ J10 : World → Prop,
    (
      ∃ n11 : Int, ∃ s12 : Slc, rowAt w8 (⟨r5, 0, none⟩ : Addr) 0 [(Value.int .i64 n11), (Slc.v s12)] ∧
      Calls Tryd.prog fn_tidewaterlaw10_long ⟨[(Value.agg ⟨[(Value.int .i64 n11), (Slc.v s12)]⟩)]⟩ w8 fun e13 w14 =>
      ∃ b15 : Bool, e13 = .returned (Value.bool b15) ∧
      BIf b15 (
        K (Value.bool true) w14) (
        BIf (decide ((10 : Int) < ((tails3.l : Nat) : Int))) (
          K (Value.bool true) w14) (
          ∃ n16 : Int, ∃ s17 : Slc, rowAt w14 (⟨r5, 0, none⟩ : Addr) 0 [(Value.int .i64 n16), (Slc.v s17)] ∧
          Calls Tryd.prog fn_plan_Right ⟨[(Value.agg ⟨[(Value.int .i64 n16), (Slc.v s17)]⟩)]⟩ w14 fun e18 w19 =>
          ∃ b20 : Bool, e18 = .returned (Value.bool b20) ∧
          BIf (!b20) (
            K (Value.bool true) w19) (
            J10 w19)))) ∧ (
    ∀ w21 : World, J10 w21 → ∀ u22 u23 u24 u25 u26 u27 u28 u29 u30 u31 u32 u33 u34 : Value,
      ∃ (I35 : (Int) → World → Prop) (mu36 : (Int) → World → Nat), I35 ((0 : Int)) w21 ∧ (
      ∀ i37 : Int, ∀ w38 : World, I35 i37 w38 → ∀ u39 u40 u41 u42 u43 u44 u45 u46 : Value,
        BIf (decide (i37 < ((tails3.l : Nat) : Int))) (
          needSome tails3.p fun a47 =>
          0 ≤ i37 ∧ i37 < ((tails3.l : Nat) : Int) ∧
          ∃ n48 : Int, World.cell? w38 (Addr.add a47 ((Int.toNat i37) * 1)) = some (Value.int .i64 n48) ∧
          BIf (decide ((300 : Int) < n48)) (
            K (Value.bool true) w38) (
            inR .i64 (i37 + (1 : Int)) ∧
            (I35 ((i37 + (1 : Int))) w38 ∧ mu36 ((i37 + (1 : Int))) w38 < mu36 i37 w38))) (
          ∃ n49 : Int, ∃ s50 : Slc, rowAt w38 (⟨r5, 0, none⟩ : Addr) 0 [(Value.int .i64 n49), (Slc.v s50)] ∧
          Calls Tryd.prog fn_plan_Tail ⟨[(Value.agg ⟨[(Value.int .i64 n49), (Slc.v s50)]⟩), (Slc.v tails3)]⟩ w38 fun e51 w52 =>
          ∃ n53 : Int, e51 = .returned (Value.int .i64 n53) ∧
          0 ≤ (IntKind.wrap .u64 a4) ∧ 0 < (2000 : Int) ∧
          BIf (decide ((IntKind.wrap .i64 ((IntKind.wrap .u64 a4) % (2000 : Int))) < n53)) (
            BIf (decide (n53 = (0 : Int))) (
              K (Value.bool true) w52) (
              ∃ n54 : Int, ∃ s55 : Slc, rowAt w52 (⟨r5, 0, none⟩ : Addr) 0 [(Value.int .i64 n54), (Slc.v s55)] ∧
              inR .i64 (n53 - (1 : Int)) ∧
              Calls Tryd.prog fn_tidewaterlaw10_below ⟨[(Value.agg ⟨[(Value.int .i64 n54), (Slc.v s55)]⟩), (Slc.v tails3), (Value.int .i64 (n53 - (1 : Int)))]⟩ w52 fun e56 w57 =>
              ∃ b58 : Bool, e56 = .returned (Value.bool b58) ∧
              K (Value.bool b58) w57)) (
            ∃ n59 : Int, ∃ s60 : Slc, rowAt w52 (⟨r5, 0, none⟩ : Addr) 0 [(Value.int .i64 n59), (Slc.v s60)] ∧
            Calls Tryd.prog fn_tidewaterlaw10_below ⟨[(Value.agg ⟨[(Value.int .i64 n59), (Slc.v s60)]⟩), (Slc.v tails3), (Value.int .i64 (IntKind.wrap .i64 ((IntKind.wrap .u64 a4) % (2000 : Int))))]⟩ w52 fun e61 w62 =>
            ∃ b63 : Bool, e61 = .returned (Value.bool b63) ∧
            BIf (!b63) (
              BIf (decide (n53 = (0 : Int))) (
                K (Value.bool true) w62) (
                ∃ n64 : Int, ∃ s65 : Slc, rowAt w62 (⟨r5, 0, none⟩ : Addr) 0 [(Value.int .i64 n64), (Slc.v s65)] ∧
                inR .i64 (n53 - (1 : Int)) ∧
                Calls Tryd.prog fn_tidewaterlaw10_below ⟨[(Value.agg ⟨[(Value.int .i64 n64), (Slc.v s65)]⟩), (Slc.v tails3), (Value.int .i64 (n53 - (1 : Int)))]⟩ w62 fun e66 w67 =>
                ∃ b68 : Bool, e66 = .returned (Value.bool b68) ∧
                K (Value.bool b68) w67)) (
              K (Value.bool false) w62))))))

theorem tidewaterlaw10_PlanTails_eq (p1 : Int) (p2 : Slc) (tails3 : Slc) (a4 : Int) (w : World) (K : Value → World → Prop) : tidewaterlaw10_PlanTails p1 p2 tails3 a4 w K = denF Tryd.prog callB Tryd.f3 (.two .none (.two .none (.cut [] [6, 12, 13, 14, 15, 16, 17, 18, 19, 20, 21, 22, 23] .none (.two (.two .none (.one (.loop [(26, (Sh.int .i64))] [6, 8, 27, 28, 29, 30, 31, 32] .none))) .none)))) [(Value.agg ⟨[(Value.int .i64 p1), (Slc.v p2)]⟩), (Slc.v tails3), (Value.int .i64 a4)] w K := by kernel_rfl
theorem tidewaterlaw10_PlanTails_ok (p1 : Int) (p2 : Slc) (tails3 : Slc) (a4 : Int) {w : World} {R : Ending → World → Prop} (h : tidewaterlaw10_PlanTails p1 p2 tails3 a4 w fun v w' => R (.returned v) w') : Calls Tryd.prog fn_tidewaterlaw10_PlanTails ⟨[(Value.agg ⟨[(Value.int .i64 p1), (Slc.v p2)]⟩), (Slc.v tails3), (Value.int .i64 a4)]⟩ w R :=
  calls_of_den callB_ok mixed Tryd.func3 (tidewaterlaw10_PlanTails_eq p1 p2 tails3 a4 w _ ▸ h)

/-- tidewater/tidewaterlaw10.PlanPlaces -/
def tidewaterlaw10_PlanPlaces (p1 : Int) (p2 : Slc) (a3 : Int) (tails4 : Slc) (w : World) (K : Value → World → Prop) : Prop :=
  newS w (.cells ⟨[(Value.int .i64 p1), (Slc.v p2)]⟩ 24) fun r5 w6 =>
  Calls Tryd.prog fn_tidewaterlaw10_alive ⟨[]⟩ w6 fun e7 w8 =>
  ∃ b9 : Bool, e7 = .returned (Value.bool b9) ∧
  BIf (!b9) (
    K (Value.bool false) w8) (
    ∃ J10 : World → Prop,
    (
      ∃ n11 : Int, ∃ s12 : Slc, rowAt w8 (⟨r5, 0, none⟩ : Addr) 0 [(Value.int .i64 n11), (Slc.v s12)] ∧
      Calls Tryd.prog fn_tidewaterlaw10_long ⟨[(Value.agg ⟨[(Value.int .i64 n11), (Slc.v s12)]⟩)]⟩ w8 fun e13 w14 =>
      ∃ b15 : Bool, e13 = .returned (Value.bool b15) ∧
      BIf b15 (
        K (Value.bool true) w14) (
        BIf (decide ((10 : Int) < ((tails4.l : Nat) : Int))) (
          K (Value.bool true) w14) (
          J10 w14))) ∧ (
    ∀ w16 : World, J10 w16 → ∀ u17 u18 u19 u20 u21 u22 u23 u24 : Value,
      ∃ n25 : Int, ∃ s26 : Slc, rowAt w16 (⟨r5, 0, none⟩ : Addr) 0 [(Value.int .i64 n25), (Slc.v s26)] ∧
      newS w16 (.cells ⟨[(Value.int .i64 (0 : Int)), (Slc.v (⟨none, 0, 0⟩ : Slc))]⟩ 31) fun r27 w28 =>
      canW w28 (⟨r27, 0, none⟩ : Addr) 2 ∧ ∀ w29 : World, w29 = setCells w28 (⟨r27, 0, none⟩ : Addr) 0 [(Value.int .i64 n25), (Slc.v s26)] →
      ∃ n30 : Int, ∃ s31 : Slc, rowAt w29 (⟨r27, 0, none⟩ : Addr) 0 [(Value.int .i64 n30), (Slc.v s31)] ∧
      Calls Tryd.prog fn_tidewaterref10_Right ⟨[(Value.agg ⟨[(Value.int .i64 n30), (Slc.v s31)]⟩)]⟩ w29 fun e32 w33 =>
      ∃ b34 : Bool, e32 = .returned (Value.bool b34) ∧
      ∃ n35 : Int, ∃ s36 : Slc, rowAt w33 (⟨r5, 0, none⟩ : Addr) 0 [(Value.int .i64 n35), (Slc.v s36)] ∧
      Calls Tryd.prog fn_plan_Place ⟨[(Value.agg ⟨[(Value.int .i64 n35), (Slc.v s36)]⟩), (Value.int .i64 a3)]⟩ w33 fun e37 w38 =>
      ∃ n39 : Int, ∃ n40 : Int, ∃ e41 : Value, e37 = .returned (Value.tuple ⟨[(Value.int .i64 n39), (Value.int .i64 n40), e41]⟩) ∧
      ∃ n42 : Int, ∃ s43 : Slc, rowAt w38 (⟨r5, 0, none⟩ : Addr) 0 [(Value.int .i64 n42), (Slc.v s43)] ∧
      Calls Tryd.prog fn_plan_Right ⟨[(Value.agg ⟨[(Value.int .i64 n42), (Slc.v s43)]⟩)]⟩ w38 fun e44 w45 =>
      ∃ b46 : Bool, e44 = .returned (Value.bool b46) ∧
      BIf (!(b46 == b34)) (
        K (Value.bool false) w45) (
        BIf (!b34) (
          BIf (decide (n39 = (0 : Int))) (
            BIf (decide (n40 = (0 : Int))) (
              Calls Tryd.prog fn_tidewaternum_Num ⟨[e41]⟩ w45 fun e47 w48 =>
              ∃ n49 : Int, e47 = .returned (Value.int .i64 n49) ∧
              BIf (decide (n49 = (4 : Int))) (
                ∃ n50 : Int, ∃ s51 : Slc, rowAt w48 (⟨r5, 0, none⟩ : Addr) 0 [(Value.int .i64 n50), (Slc.v s51)] ∧
                Calls Tryd.prog fn_plan_Address ⟨[(Value.agg ⟨[(Value.int .i64 n50), (Slc.v s51)]⟩), (Value.int .i64 (0 : Int)), (Value.int .i64 (0 : Int))]⟩ w48 fun e52 w53 =>
                ∃ n54 : Int, e52 = .returned (Value.int .i64 n54) ∧
                BIf (decide (n54 = (-1 : Int))) (
                  ∃ n55 : Int, ∃ s56 : Slc, rowAt w53 (⟨r5, 0, none⟩ : Addr) 0 [(Value.int .i64 n55), (Slc.v s56)] ∧
                  Calls Tryd.prog fn_plan_Tail ⟨[(Value.agg ⟨[(Value.int .i64 n55), (Slc.v s56)]⟩), (Slc.v tails4)]⟩ w53 fun e57 w58 =>
                  ∃ n59 : Int, e57 = .returned (Value.int .i64 n59) ∧
                  BIf (decide (n59 = (0 : Int))) (
                    ∃ n60 : Int, ∃ s61 : Slc, rowAt w58 (⟨r5, 0, none⟩ : Addr) 0 [(Value.int .i64 n60), (Slc.v s61)] ∧
                    Calls Tryd.prog fn_plan_Units ⟨[(Value.agg ⟨[(Value.int .i64 n60), (Slc.v s61)]⟩)]⟩ w58 fun e62 w63 =>
                    ∃ s64 : Slc, e62 = .returned (Slc.v s64) ∧
                    K (Value.bool (decide (((s64.l : Nat) : Int) = (0 : Int)))) w63) (
                    K (Value.bool false) w58)) (
                  K (Value.bool false) w53)) (
                K (Value.bool false) w48)) (
              K (Value.bool false) w45)) (
            K (Value.bool false) w45)) (
          ∃ J65 : World → Prop,
          (
            ∃ n66 : Int, ∃ s67 : Slc, rowAt (World.drew w45) (⟨r5, 0, none⟩ : Addr) 0 [(Value.int .i64 n66), (Slc.v s67)] ∧
            ∃ n68 : Int, ∃ s69 : Slc, rowAt (World.drew w45) (⟨r27, 0, none⟩ : Addr) 0 [(Value.int .i64 n68), (Slc.v s69)] ∧
            Calls Tryd.prog fn_plan_Units ⟨[(Value.agg ⟨[(Value.int .i64 n66), (Slc.v s67)]⟩)]⟩ (World.drew w45) fun e70 w71 =>
            ∃ s72 : Slc, e70 = .returned (Slc.v s72) ∧
            (∃ n73 : Int, ∃ s74 : Slc, rowAt w71 (⟨r27, 0, none⟩ : Addr) 0 [(Value.int .i64 n73), (Slc.v s74)] ∧
            (Value.agg ⟨[(Value.int .i64 n73), (Slc.v s74)]⟩) = (Value.agg ⟨[(Value.int .i64 n68), (Slc.v s69)]⟩)) ∧
            Calls Tryd.prog fn_tidewaterref10_Units ⟨[(Value.agg ⟨[(Value.int .i64 n68), (Slc.v s69)]⟩)]⟩ w71 fun e75 w76 =>
            ∃ s77 : Slc, e75 = .returned (Slc.v s77) ∧
            Calls Tryd.prog fn_tidewaternum_SameInts ⟨[(Slc.v s72), (Slc.v s77)]⟩ w76 fun e78 w79 =>
            ∃ b80 : Bool, e78 = .returned (Value.bool b80) ∧
            BIf (!b80) (
              K (Value.bool false) w79) (
              ∃ n81 : Int, ∃ s82 : Slc, rowAt w79 (⟨r5, 0, none⟩ : Addr) 0 [(Value.int .i64 n81), (Slc.v s82)] ∧
              ∃ n83 : Int, ∃ s84 : Slc, rowAt w79 (⟨r27, 0, none⟩ : Addr) 0 [(Value.int .i64 n83), (Slc.v s84)] ∧
              Calls Tryd.prog fn_plan_Tail ⟨[(Value.agg ⟨[(Value.int .i64 n81), (Slc.v s82)]⟩), (Slc.v tails4)]⟩ w79 fun e85 w86 =>
              ∃ n87 : Int, e85 = .returned (Value.int .i64 n87) ∧
              (∃ n88 : Int, ∃ s89 : Slc, rowAt w86 (⟨r27, 0, none⟩ : Addr) 0 [(Value.int .i64 n88), (Slc.v s89)] ∧
              (Value.agg ⟨[(Value.int .i64 n88), (Slc.v s89)]⟩) = (Value.agg ⟨[(Value.int .i64 n83), (Slc.v s84)]⟩)) ∧
              Calls Tryd.prog fn_tidewaterref10_Tail ⟨[(Value.agg ⟨[(Value.int .i64 n83), (Slc.v s84)]⟩), (Slc.v tails4)]⟩ w86 fun e90 w91 =>
              ∃ n92 : Int, e90 = .returned (Value.int .i64 n92) ∧
              BIf (!decide (n87 = n92)) (
                K (Value.bool false) w91) (
                J65 w91))) ∧ (
          ∀ w93 : World, J65 w93 → ∀ u94 u95 u96 u97 u98 u99 u100 u101 u102 u103 u104 u105 u106 u107 u108 u109 : Value,
            ∃ J110 : World → Prop,
            (
              BIf (decide (a3 < (0 : Int))) (
                BIf (decide (n39 = (0 : Int))) (
                  BIf (decide (n40 = (0 : Int))) (
                    Calls Tryd.prog fn_tidewaternum_Num ⟨[e41]⟩ w93 fun e111 w112 =>
                    ∃ n113 : Int, e111 = .returned (Value.int .i64 n113) ∧
                    K (Value.bool (decide (n113 = (1 : Int)))) w112) (
                    K (Value.bool false) w93)) (
                  K (Value.bool false) w93)) (
                BIf (decide ((4095 : Int) < a3)) (
                  BIf (decide (n39 = (0 : Int))) (
                    BIf (decide (n40 = (0 : Int))) (
                      Calls Tryd.prog fn_tidewaternum_Num ⟨[e41]⟩ w93 fun e114 w115 =>
                      ∃ n116 : Int, e114 = .returned (Value.int .i64 n116) ∧
                      K (Value.bool (decide (n116 = (1 : Int)))) w115) (
                      K (Value.bool false) w93)) (
                    K (Value.bool false) w93)) (
                  J110 w93))) ∧ (
            ∀ w117 : World, J110 w117 → ∀ u118 u119 u120 u121 u122 u123 u124 u125 u126 u127 u128 u129 u130 u131 u132 u133 u134 u135 : Value,
              ∃ s136 : Slc, World.cell? w117 (⟨r5, 1, none⟩ : Addr) = some (Slc.v s136) ∧
              isI e41 ∧
              BIf (isNilI e41) (
                0 ≤ a3 ∧ 0 < ((s136.l : Nat) : Int) ∧
                BIf (decide (n39 = (a3 % ((s136.l : Nat) : Int)))) (
                  0 ≤ a3 ∧ 0 < ((s136.l : Nat) : Int) ∧ inR .i64 a3 ∧
                  BIf (decide (n40 = (a3 / ((s136.l : Nat) : Int)))) (
                    ∃ n137 : Int, ∃ s138 : Slc, rowAt w117 (⟨r5, 0, none⟩ : Addr) 0 [(Value.int .i64 n137), (Slc.v s138)] ∧
                    Calls Tryd.prog fn_plan_Address ⟨[(Value.agg ⟨[(Value.int .i64 n137), (Slc.v s138)]⟩), (Value.int .i64 n39), (Value.int .i64 n40)]⟩ w117 fun e139 w140 =>
                    ∃ n141 : Int, e139 = .returned (Value.int .i64 n141) ∧
                    BIf (decide (n141 = a3)) (
                      ∃ n142 : Int, ∃ s143 : Slc, rowAt w140 (⟨r5, 0, none⟩ : Addr) 0 [(Value.int .i64 n142), (Slc.v s143)] ∧
                      Calls Tryd.prog fn_plan_Address ⟨[(Value.agg ⟨[(Value.int .i64 n142), (Slc.v s143)]⟩), (Value.int .i64 ((s136.l : Nat) : Int)), (Value.int .i64 (0 : Int))]⟩ w140 fun e144 w145 =>
                      ∃ n146 : Int, e144 = .returned (Value.int .i64 n146) ∧
                      BIf (decide (n146 = (-1 : Int))) (
                        ∃ n147 : Int, ∃ s148 : Slc, rowAt w145 (⟨r5, 0, none⟩ : Addr) 0 [(Value.int .i64 n147), (Slc.v s148)] ∧
                        Calls Tryd.prog fn_plan_Address ⟨[(Value.agg ⟨[(Value.int .i64 n147), (Slc.v s148)]⟩), (Value.int .i64 (-1 : Int)), (Value.int .i64 (0 : Int))]⟩ w145 fun e149 w150 =>
                        ∃ n151 : Int, e149 = .returned (Value.int .i64 n151) ∧
                        BIf (decide (n151 = (-1 : Int))) (
                          ∃ n152 : Int, ∃ s153 : Slc, rowAt w150 (⟨r5, 0, none⟩ : Addr) 0 [(Value.int .i64 n152), (Slc.v s153)] ∧
                          Calls Tryd.prog fn_plan_Address ⟨[(Value.agg ⟨[(Value.int .i64 n152), (Slc.v s153)]⟩), (Value.int .i64 (0 : Int)), (Value.int .i64 (-1 : Int))]⟩ w150 fun e154 w155 =>
                          ∃ n156 : Int, e154 = .returned (Value.int .i64 n156) ∧
                          BIf (decide (n156 = (-1 : Int))) (
                            ∃ n157 : Int, ∃ s158 : Slc, rowAt w155 (⟨r5, 0, none⟩ : Addr) 0 [(Value.int .i64 n157), (Slc.v s158)] ∧
                            Calls Tryd.prog fn_plan_Address ⟨[(Value.agg ⟨[(Value.int .i64 n157), (Slc.v s158)]⟩), (Value.int .i64 (0 : Int)), (Value.int .i64 (4097 : Int))]⟩ w155 fun e159 w160 =>
                            ∃ n161 : Int, e159 = .returned (Value.int .i64 n161) ∧
                            K (Value.bool (decide (n161 = (-1 : Int)))) w160) (
                            K (Value.bool false) w155)) (
                          K (Value.bool false) w150)) (
                        K (Value.bool false) w145)) (
                      K (Value.bool false) w140)) (
                    K (Value.bool false) w117)) (
                  K (Value.bool false) w117)) (
                K (Value.bool false) w117)))))))

theorem tidewaterlaw10_PlanPlaces_eq (p1 : Int) (p2 : Slc) (a3 : Int) (tails4 : Slc) (w : World) (K : Value → World → Prop) : tidewaterlaw10_PlanPlaces p1 p2 a3 tails4 w K = denF Tryd.prog callB Tryd.f4 (.two .none (.two .none (.cut [] [6, 15, 16, 17, 18, 19, 20, 21] .none (.two .none (.two .none (.two .none (.two .none (.two .none (.cut [] [6, 66, 67, 68, 69, 70, 71, 72, 73, 74, 75, 76, 77, 78, 79, 80] .none (.cut [] [6, 81, 82, 83, 84, 85, 86, 87, 88, 89, 90, 91, 92, 93, 94, 95, 96, 97] .none .none)))))))))) [(Value.agg ⟨[(Value.int .i64 p1), (Slc.v p2)]⟩), (Value.int .i64 a3), (Slc.v tails4)] w K := by kernel_rfl
theorem tidewaterlaw10_PlanPlaces_ok (p1 : Int) (p2 : Slc) (a3 : Int) (tails4 : Slc) {w : World} {R : Ending → World → Prop} (h : tidewaterlaw10_PlanPlaces p1 p2 a3 tails4 w fun v w' => R (.returned v) w') : Calls Tryd.prog fn_tidewaterlaw10_PlanPlaces ⟨[(Value.agg ⟨[(Value.int .i64 p1), (Slc.v p2)]⟩), (Value.int .i64 a3), (Slc.v tails4)]⟩ w R :=
  calls_of_den callB_ok mixed Tryd.func4 (tidewaterlaw10_PlanPlaces_eq p1 p2 a3 tails4 w _ ▸ h)

/-- tidewater/tidewaterlaw10.PlanNext -/
def tidewaterlaw10_PlanNext (p1 : Int) (p2 : Slc) (gone3 : Slc) (fresh4 : Int) (w : World) (K : Value → World → Prop) : Prop :=
  newS w (.cells ⟨[(Value.int .i64 p1), (Slc.v p2)]⟩ 24) fun r5 w6 =>
  Calls Tryd.prog fn_tidewaterlaw10_alive ⟨[]⟩ w6 fun e7 w8 =>
  ∃ b9 : Bool, e7 = .returned (Value.bool b9) ∧
  BIf (!b9) (
    K (Value.bool false) w8) (
    ∃ J10 : World → Prop,
    (
      ∃ n11 : Int, ∃ s12 : Slc, rowAt w8 (⟨r5, 0, none⟩ : Addr) 0 [(Value.int .i64 n11), (Slc.v s12)] ∧
      Calls Tryd.prog fn_tidewaterlaw10_long ⟨[(Value.agg ⟨[(Value.int .i64 n11), (Slc.v s12)]⟩)]⟩ w8 fun e13 w14 =>
      ∃ b15 : Bool, e13 = .returned (Value.bool b15) ∧
      BIf b15 (
        K (Value.bool true) w14) (
        BIf (decide ((20 : Int) < ((gone3.l : Nat) : Int))) (
          K (Value.bool true) w14) (
          J10 w14))) ∧ (
    ∀ w16 : World, J10 w16 → ∀ u17 u18 u19 u20 u21 u22 u23 u24 : Value,
      ∃ n25 : Int, ∃ s26 : Slc, rowAt w16 (⟨r5, 0, none⟩ : Addr) 0 [(Value.int .i64 n25), (Slc.v s26)] ∧
      Calls Tryd.prog fn_plan_Copy ⟨[(Value.agg ⟨[(Value.int .i64 n25), (Slc.v s26)]⟩)]⟩ w16 fun e27 w28 =>
      ∃ x29 : Int, ∃ x30 : Slc, e27 = .returned (Value.agg ⟨[(Value.int .i64 x29), (Slc.v x30)]⟩) ∧
      newS w28 (.cells ⟨[(Value.int .i64 (0 : Int)), (Slc.v (⟨none, 0, 0⟩ : Slc))]⟩ 24) fun r31 w32 =>
      canW w32 (⟨r31, 0, none⟩ : Addr) 2 ∧ ∀ w33 : World, w33 = setCells w32 (⟨r31, 0, none⟩ : Addr) 0 [(Value.int .i64 x29), (Slc.v x30)] →
      ∃ n34 : Int, ∃ s35 : Slc, rowAt w33 (⟨r5, 0, none⟩ : Addr) 0 [(Value.int .i64 n34), (Slc.v s35)] ∧
      Calls Tryd.prog fn_plan_Replace ⟨[(Value.agg ⟨[(Value.int .i64 n34), (Slc.v s35)]⟩), (Slc.v gone3), (Value.int .i64 fresh4)]⟩ w33 fun e36 w37 =>
      ∃ x38 : Int, ∃ x39 : Slc, ∃ e40 : Value, e36 = .returned (Value.tuple ⟨[(Value.agg ⟨[(Value.int .i64 x38), (Slc.v x39)]⟩), e40]⟩) ∧
      newS w37 (.cells ⟨[(Value.int .i64 (0 : Int)), (Slc.v (⟨none, 0, 0⟩ : Slc))]⟩ 24) fun r41 w42 =>
      canW w42 (⟨r41, 0, none⟩ : Addr) 2 ∧ ∀ w43 : World, w43 = setCells w42 (⟨r41, 0, none⟩ : Addr) 0 [(Value.int .i64 x38), (Slc.v x39)] →
      ∃ n44 : Int, ∃ s45 : Slc, rowAt w43 (⟨r5, 0, none⟩ : Addr) 0 [(Value.int .i64 n44), (Slc.v s45)] ∧
      Calls Tryd.prog fn_tidewaterref10_Replace ⟨[(Value.agg ⟨[(Value.int .i64 n44), (Slc.v s45)]⟩), (Slc.v gone3), (Value.int .i64 fresh4)]⟩ w43 fun e46 w47 =>
      ∃ x48 : Int, ∃ x49 : Slc, ∃ n50 : Int, e46 = .returned (Value.tuple ⟨[(Value.agg ⟨[(Value.int .i64 x48), (Slc.v x49)]⟩), (Value.int .i64 n50)]⟩) ∧
      newS w47 (.cells ⟨[(Value.int .i64 (0 : Int)), (Slc.v (⟨none, 0, 0⟩ : Slc))]⟩ 31) fun r51 w52 =>
      canW w52 (⟨r51, 0, none⟩ : Addr) 2 ∧ ∀ w53 : World, w53 = setCells w52 (⟨r51, 0, none⟩ : Addr) 0 [(Value.int .i64 x48), (Slc.v x49)] →
      Calls Tryd.prog fn_tidewaternum_Num ⟨[e40]⟩ w53 fun e54 w55 =>
      ∃ n56 : Int, e54 = .returned (Value.int .i64 n56) ∧
      BIf (decide (n56 = n50)) (
        ∃ n57 : Int, ∃ s58 : Slc, rowAt w55 (⟨r41, 0, none⟩ : Addr) 0 [(Value.int .i64 n57), (Slc.v s58)] ∧
        ∃ n59 : Int, ∃ s60 : Slc, rowAt w55 (⟨r51, 0, none⟩ : Addr) 0 [(Value.int .i64 n59), (Slc.v s60)] ∧
        Calls Tryd.prog fn_tidewaterref10_Same ⟨[(Value.agg ⟨[(Value.int .i64 n57), (Slc.v s58)]⟩), (Value.agg ⟨[(Value.int .i64 n59), (Slc.v s60)]⟩)]⟩ w55 fun e61 w62 =>
        ∃ b63 : Bool, e61 = .returned (Value.bool b63) ∧
        BIf b63 (
          ∃ n64 : Int, ∃ s65 : Slc, rowAt w62 (⟨r31, 0, none⟩ : Addr) 0 [(Value.int .i64 n64), (Slc.v s65)] ∧
          ∃ n66 : Int, ∃ s67 : Slc, rowAt w62 (⟨r5, 0, none⟩ : Addr) 0 [(Value.int .i64 n66), (Slc.v s67)] ∧
          Calls Tryd.prog fn_tidewaterref10_Same ⟨[(Value.agg ⟨[(Value.int .i64 n64), (Slc.v s65)]⟩), (Value.agg ⟨[(Value.int .i64 n66), (Slc.v s67)]⟩)]⟩ w62 fun e68 w69 =>
          ∃ b70 : Bool, e68 = .returned (Value.bool b70) ∧
          BIf b70 (
            BIf (!decide (n50 = (0 : Int))) (
              K (Value.bool true) w69) (
              ∃ n71 : Int, ∃ s72 : Slc, rowAt w69 (⟨r41, 0, none⟩ : Addr) 0 [(Value.int .i64 n71), (Slc.v s72)] ∧
              Calls Tryd.prog fn_plan_Right ⟨[(Value.agg ⟨[(Value.int .i64 n71), (Slc.v s72)]⟩)]⟩ w69 fun e73 w74 =>
              ∃ b75 : Bool, e73 = .returned (Value.bool b75) ∧
              K (Value.bool b75) w74)) (
            K (Value.bool false) w69)) (
          K (Value.bool false) w62)) (
        K (Value.bool false) w55)))

theorem tidewaterlaw10_PlanNext_eq (p1 : Int) (p2 : Slc) (gone3 : Slc) (fresh4 : Int) (w : World) (K : Value → World → Prop) : tidewaterlaw10_PlanNext p1 p2 gone3 fresh4 w K = denF Tryd.prog callB Tryd.f5 (.two .none (.two .none (.cut [] [6, 14, 15, 16, 17, 18, 19, 20] .none .none))) [(Value.agg ⟨[(Value.int .i64 p1), (Slc.v p2)]⟩), (Slc.v gone3), (Value.int .i64 fresh4)] w K := by kernel_rfl
theorem tidewaterlaw10_PlanNext_ok (p1 : Int) (p2 : Slc) (gone3 : Slc) (fresh4 : Int) {w : World} {R : Ending → World → Prop} (h : tidewaterlaw10_PlanNext p1 p2 gone3 fresh4 w fun v w' => R (.returned v) w') : Calls Tryd.prog fn_tidewaterlaw10_PlanNext ⟨[(Value.agg ⟨[(Value.int .i64 p1), (Slc.v p2)]⟩), (Slc.v gone3), (Value.int .i64 fresh4)]⟩ w R :=
  calls_of_den callB_ok mixed Tryd.func5 (tidewaterlaw10_PlanNext_eq p1 p2 gone3 fresh4 w _ ▸ h)

end Go.D
