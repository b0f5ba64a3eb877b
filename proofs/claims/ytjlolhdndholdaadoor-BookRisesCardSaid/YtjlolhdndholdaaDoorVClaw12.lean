/-
  WHAT IS PROVED: verification conditions of functions of this program, each with its soundness. No further conditions.
-/
import Derived.Test.YtjlolhdndholdaaDoorBase
set_option linter.unusedSimpArgs false
set_option maxRecDepth 100000
set_option linter.unusedVariables false
namespace Go.D
open Go Go.Proofs
/-- tidewater/tidewaterlaw12.alive -/
def tidewaterlaw12_alive  (w : World) (K : Value → World → Prop) : Prop :=
  newS w (.cells ⟨[(Value.int .i64 (0 : Int))]⟩ 3) fun r1 w2 =>
  newS w2 (.cells ⟨[(Slc.v (⟨(some (⟨r1, 0, none⟩ : Addr)), 1, 1⟩ : Slc))]⟩ 22) fun r3 w4 =>
  Calls Tryd.prog fn_book_New ⟨[(Value.int .i64 (3 : Int)), (Value.agg ⟨[(Value.int .i64 (0 : Int)), (Slc.v (⟨(some (⟨r3, 0, none⟩ : Addr)), 1, 1⟩ : Slc))]⟩)]⟩ w4 fun e5 w6 =>
  ∃ p7 : Option Addr, ∃ e8 : Value, e5 = .returned (Value.tuple ⟨[(Value.pointer p7), e8]⟩) ∧
  ∃ J9 : World → Prop,
  (
    isI e8 ∧
    BIf (!isNilI e8) (
      K (Value.bool false) w6) (
      BIf (Option.isNone (p7 : Option Addr)) (
        K (Value.bool false) w6) (
        J9 w6))) ∧ (
  ∀ w10 : World, J9 w10 → ∀ u11 u12 u13 u14 u15 u16 u17 : Value,
    Calls Tryd.prog fn_book_Book_Set ⟨[(Value.pointer p7), (Value.int .i64 (0 : Int)), (Value.bool false)]⟩ w10 fun e18 w19 =>
    e18 = .returned (Value.tuple #[]) ∧
    Calls Tryd.prog fn_book_Book_Set ⟨[(Value.pointer p7), (Value.int .i64 (1 : Int)), (Value.bool false)]⟩ w19 fun e20 w21 =>
    e20 = .returned (Value.tuple #[]) ∧
    newS w21 (.cells ⟨[(Value.int .i64 (0 : Int))]⟩ 3) fun r22 w23 =>
    newS w23 (.cells ⟨[(Slc.v (⟨(some (⟨r22, 0, none⟩ : Addr)), 1, 1⟩ : Slc))]⟩ 22) fun r24 w25 =>
    newS w25 (.cells ⟨[(Value.int .i64 (0 : Int)), (Value.int .i64 (1 : Int)), (Value.int .i64 (2 : Int))]⟩ 3) fun r26 w27 =>
    Calls Tryd.prog fn_book_Book_Propose ⟨[(Value.pointer p7), (Value.int .i64 (1 : Int)), (Value.agg ⟨[(Value.int .i64 (1 : Int)), (Slc.v (⟨(some (⟨r24, 0, none⟩ : Addr)), 1, 1⟩ : Slc))]⟩), (Slc.v (⟨(some (⟨r26, 0, none⟩ : Addr)), 3, 3⟩ : Slc))]⟩ w27 fun e28 w29 =>
    ∃ x30 : Int, ∃ x31 : Slc, ∃ e32 : Value, e28 = .returned (Value.tuple ⟨[(Value.agg ⟨[(Value.int .i64 x30), (Slc.v x31)]⟩), e32]⟩) ∧
    Calls Tryd.prog fn_tidewaternum_Num ⟨[e32]⟩ w29 fun e33 w34 =>
    ∃ n35 : Int, e33 = .returned (Value.int .i64 n35) ∧
    BIf (decide (n35 = (12 : Int))) (
      Calls Tryd.prog fn_book_Book_Up ⟨[(Value.pointer p7)]⟩ w34 fun e36 w37 =>
      ∃ n38 : Int, e36 = .returned (Value.int .i64 n38) ∧
      K (Value.bool (decide (n38 = (1 : Int)))) w37) (
      K (Value.bool false) w34))

theorem tidewaterlaw12_alive_eq  (w : World) (K : Value → World → Prop) : tidewaterlaw12_alive  w K = denF Tryd.prog callB Tryd.f5 (.two .none (.two .none (.cut [] [0, 10, 11, 12, 13, 14, 15] .none .none))) [] w K := by kernel_rfl
theorem tidewaterlaw12_alive_ok  {w : World} {R : Ending → World → Prop} (h : tidewaterlaw12_alive  w fun v w' => R (.returned v) w') : Calls Tryd.prog fn_tidewaterlaw12_alive ⟨[]⟩ w R :=
  calls_of_den callB_ok mixed Tryd.func5 (tidewaterlaw12_alive_eq  w _ ▸ h)

/-- tidewater/tidewaterlaw12.long -/
def tidewaterlaw12_long (first1 : Int) (first2 : Slc) (list3 : Slc) (w : World) (K : Value → World → Prop) : Prop :=
  newS w (.cells ⟨[(Value.int .i64 first1), (Slc.v first2)]⟩ 27) fun r4 w5 =>
  ∃ J6 : World → Prop,
  (
    ∃ s7 : Slc, World.cell? w5 (⟨r4, 1, none⟩ : Addr) = some (Slc.v s7) ∧
    BIf (decide ((10 : Int) < ((s7.l : Nat) : Int))) (
      K (Value.bool true) w5) (
      BIf (decide ((40 : Int) < ((list3.l : Nat) : Int))) (
        K (Value.bool true) w5) (
        J6 w5))) ∧ (
  ∀ w8 : World, J6 w8 → ∀ u9 u10 u11 u12 u13 u14 u15 u16 u17 u18 : Value,
    ∃ s19 : Slc, World.cell? w8 (⟨r4, 1, none⟩ : Addr) = some (Slc.v s19) ∧
    ∃ (I20 : (Int) → World → Prop) (mu21 : (Int) → World → Nat), I20 ((0 : Int)) w8 ∧ (
    ∀ i22 : Int, ∀ w23 : World, I20 i22 w23 → ∀ u24 u25 u26 u27 u28 u29 u30 u31 u32 : Value,
      BIf (decide (i22 < ((s19.l : Nat) : Int))) (
        needSome s19.p fun a33 =>
        0 ≤ i22 ∧ i22 < ((s19.l : Nat) : Int) ∧
        ∃ s34 : Slc, World.cell? w23 (Addr.add a33 ((Int.toNat i22) * 1)) = some (Slc.v s34) ∧
        BIf (decide ((10 : Int) < ((s34.l : Nat) : Int))) (
          K (Value.bool true) w23) (
          inR .i64 (i22 + (1 : Int)) ∧
          (I20 ((i22 + (1 : Int))) w23 ∧ mu21 ((i22 + (1 : Int))) w23 < mu21 i22 w23))) (
        ∃ (I35 : (Int) → World → Prop) (mu36 : (Int) → World → Nat), I35 ((0 : Int)) w23 ∧ (
        ∀ i37 : Int, ∀ w38 : World, I35 i37 w38 → ∀ u39 u40 u41 u42 u43 u44 u45 u46 u47 u48 u49 u50 u51 u52 u53 u54 u55 u56 u57 u58 u59 u60 u61 u62 u63 u64 u65 u66 : Value,
          BIf (decide (i37 < ((list3.l : Nat) : Int))) (
            needSome list3.p fun a67 =>
            0 ≤ i37 ∧ i37 < ((list3.l : Nat) : Int) ∧
            ∃ n68 : Int, ∃ n69 : Int, ∃ n70 : Int, ∃ n71 : Int, ∃ s72 : Slc, ∃ s73 : Slc, rowAt w38 (Addr.add a67 ((Int.toNat i37) * 6)) 0 [(Value.int .i64 n68), (Value.int .i64 n69), (Value.int .i64 n70), (Value.int .i64 n71), (Slc.v s72), (Slc.v s73)] ∧
            newS w38 (.cells ⟨[(Value.int .i64 (0 : Int)), (Value.int .i64 (0 : Int)), (Value.int .i64 (0 : Int)), (Value.int .i64 (0 : Int)), (Slc.v (⟨none, 0, 0⟩ : Slc)), (Slc.v (⟨none, 0, 0⟩ : Slc))]⟩ 45) fun r74 w75 =>
            canW w75 (⟨r74, 0, none⟩ : Addr) 6 ∧ ∀ w76 : World, w76 = setCells w75 (⟨r74, 0, none⟩ : Addr) 0 [(Value.int .i64 n68), (Value.int .i64 n69), (Value.int .i64 n70), (Value.int .i64 n71), (Slc.v s72), (Slc.v s73)] →
            ∃ J77 : World → Prop,
            (
              ∃ s78 : Slc, World.cell? w76 (⟨r74, 4, none⟩ : Addr) = some (Slc.v s78) ∧
              BIf (decide ((10 : Int) < ((s78.l : Nat) : Int))) (
                K (Value.bool true) w76) (
                ∃ s79 : Slc, World.cell? w76 (⟨r74, 5, none⟩ : Addr) = some (Slc.v s79) ∧
                BIf (decide ((20 : Int) < ((s79.l : Nat) : Int))) (
                  K (Value.bool true) w76) (
                  J77 w76))) ∧ (
            ∀ w80 : World, J77 w80 → ∀ u81 u82 u83 u84 u85 u86 u87 u88 u89 u90 u91 : Value,
              ∃ s92 : Slc, World.cell? w80 (⟨r74, 4, none⟩ : Addr) = some (Slc.v s92) ∧
              ∃ (I93 : (Int) → World → Prop) (mu94 : (Int) → World → Nat), I93 ((0 : Int)) w80 ∧ (
              ∀ i95 : Int, ∀ w96 : World, I93 i95 w96 → ∀ u97 u98 u99 u100 u101 u102 u103 u104 u105 : Value,
                BIf (decide (i95 < ((s92.l : Nat) : Int))) (
                  needSome s92.p fun a106 =>
                  0 ≤ i95 ∧ i95 < ((s92.l : Nat) : Int) ∧
                  ∃ s107 : Slc, World.cell? w96 (Addr.add a106 ((Int.toNat i95) * 1)) = some (Slc.v s107) ∧
                  BIf (decide ((10 : Int) < ((s107.l : Nat) : Int))) (
                    K (Value.bool true) w96) (
                    inR .i64 (i95 + (1 : Int)) ∧
                    (I93 ((i95 + (1 : Int))) w96 ∧ mu94 ((i95 + (1 : Int))) w96 < mu94 i95 w96))) (
                  inR .i64 (i37 + (1 : Int)) ∧
                  (I35 ((i37 + (1 : Int))) w96 ∧ mu36 ((i37 + (1 : Int))) w96 < mu36 i37 w38))))) (
            K (Value.bool false) w38)))))

theorem tidewaterlaw12_long_eq (first1 : Int) (first2 : Slc) (list3 : Slc) (w : World) (K : Value → World → Prop) : tidewaterlaw12_long first1 first2 list3 w K = denF Tryd.prog callB Tryd.f14 (.two .none (.cut [] [4, 11, 12, 13, 14, 15, 16, 17, 18, 19] .none (.two (.two .none (.one (.loop [(23, (Sh.int .i64))] [4, 6, 24, 25, 26, 27, 28, 29, 30] .none))) (.two (.two .none (.one (.loop [(33, (Sh.int .i64))] [4, 8, 10, 34, 35, 36, 37, 38, 39, 40, 41, 42, 43, 44, 45, 46, 47, 48, 49, 50, 51, 52, 53, 54, 55, 56, 57, 58] (.two .none (.two .none (.two (.one (.two .none (.cut [] [4, 37, 38, 39, 40, 41, 42, 43, 44, 45, 46] .none (.two .none (.one (.loop [(50, (Sh.int .i64))] [4, 10, 51, 52, 53, 54, 55, 56, 57] .none)))))) .none)))))) .none)))) [(Value.agg ⟨[(Value.int .i64 first1), (Slc.v first2)]⟩), (Slc.v list3)] w K := by kernel_rfl
theorem tidewaterlaw12_long_ok (first1 : Int) (first2 : Slc) (list3 : Slc) {w : World} {R : Ending → World → Prop} (h : tidewaterlaw12_long first1 first2 list3 w fun v w' => R (.returned v) w') : Calls Tryd.prog fn_tidewaterlaw12_long ⟨[(Value.agg ⟨[(Value.int .i64 first1), (Slc.v first2)]⟩), (Slc.v list3)]⟩ w R :=
  calls_of_den callB_ok mixed Tryd.func14 (tidewaterlaw12_long_eq first1 first2 list3 w _ ▸ h)

/-- tidewater/tidewaterlaw12.among -/
def tidewaterlaw12_among (p1 : Int) (p2 : Slc) (list3 : Slc) (w : World) (K : Value → World → Prop) : Prop :=
  newS w (.cells ⟨[(Value.int .i64 p1), (Slc.v p2)]⟩ 27) fun r4 w5 =>
  ∃ (I6 : (Int) → World → Prop) (mu7 : (Int) → World → Nat), I6 ((0 : Int)) w5 ∧ (
  ∀ i8 : Int, ∀ w9 : World, I6 i8 w9 → ∀ u10 u11 u12 u13 u14 u15 u16 u17 u18 : Value,
    BIf (decide (i8 < ((list3.l : Nat) : Int))) (
      needSome list3.p fun a19 =>
      0 ≤ i8 ∧ i8 < ((list3.l : Nat) : Int) ∧
      ∃ n20 : Int, ∃ s21 : Slc, rowAt w9 (Addr.add a19 ((Int.toNat i8) * 2)) 0 [(Value.int .i64 n20), (Slc.v s21)] ∧
      newS w9 (.cells ⟨[(Value.int .i64 (0 : Int)), (Slc.v (⟨none, 0, 0⟩ : Slc))]⟩ 27) fun r22 w23 =>
      canW w23 (⟨r22, 0, none⟩ : Addr) 2 ∧ ∀ w24 : World, w24 = setCells w23 (⟨r22, 0, none⟩ : Addr) 0 [(Value.int .i64 n20), (Slc.v s21)] →
      ∃ n25 : Int, ∃ s26 : Slc, rowAt w24 (⟨r4, 0, none⟩ : Addr) 0 [(Value.int .i64 n25), (Slc.v s26)] ∧
      ∃ n27 : Int, ∃ s28 : Slc, rowAt w24 (⟨r22, 0, none⟩ : Addr) 0 [(Value.int .i64 n27), (Slc.v s28)] ∧
      Calls Tryd.prog fn_plan_Same ⟨[(Value.agg ⟨[(Value.int .i64 n25), (Slc.v s26)]⟩), (Value.agg ⟨[(Value.int .i64 n27), (Slc.v s28)]⟩)]⟩ w24 fun e29 w30 =>
      ∃ b31 : Bool, e29 = .returned (Value.bool b31) ∧
      BIf b31 (
        K (Value.bool true) w30) (
        inR .i64 (i8 + (1 : Int)) ∧
        (I6 ((i8 + (1 : Int))) w30 ∧ mu7 ((i8 + (1 : Int))) w30 < mu7 i8 w9))) (
      K (Value.bool false) w9))

theorem tidewaterlaw12_among_eq (p1 : Int) (p2 : Slc) (list3 : Slc) (w : World) (K : Value → World → Prop) : tidewaterlaw12_among p1 p2 list3 w K = denF Tryd.prog callB Tryd.f16 (.two .none (.two (.two .none (.one (.loop [(9, (Sh.int .i64))] [4, 6, 10, 11, 12, 13, 14, 15, 16] .none))) .none)) [(Value.agg ⟨[(Value.int .i64 p1), (Slc.v p2)]⟩), (Slc.v list3)] w K := by kernel_rfl
theorem tidewaterlaw12_among_ok (p1 : Int) (p2 : Slc) (list3 : Slc) {w : World} {R : Ending → World → Prop} (h : tidewaterlaw12_among p1 p2 list3 w fun v w' => R (.returned v) w') : Calls Tryd.prog fn_tidewaterlaw12_among ⟨[(Value.agg ⟨[(Value.int .i64 p1), (Slc.v p2)]⟩), (Slc.v list3)]⟩ w R :=
  calls_of_den callB_ok mixed Tryd.func16 (tidewaterlaw12_among_eq p1 p2 list3 w _ ▸ h)

/-- tidewater/tidewaterlaw12.BookHalf -/
def tidewaterlaw12_BookHalf (voters1 : Int) (down2 : Slc) (chains3 : Slc) (w : World) (K : Value → World → Prop) : Prop :=
  Calls Tryd.prog fn_tidewaterlaw12_alive ⟨[]⟩ w fun e4 w5 =>
  ∃ b6 : Bool, e4 = .returned (Value.bool b6) ∧
  BIf (!b6) (
    K (Value.bool false) w5) (
    0 ≤ (IntKind.wrap .u64 voters1) ∧ 0 < (5 : Int) ∧
    inR .i64 ((1 : Int) + (IntKind.wrap .i64 ((IntKind.wrap .u64 voters1) % (5 : Int)))) ∧
    newS w5 (.cells ⟨[(Value.int .i64 (0 : Int)), (Slc.v (⟨none, 0, 0⟩ : Slc))]⟩ 27) fun r7 w8 =>
    canW w8 (⟨r7, 0, none⟩ : Addr) 2 ∧ ∀ w9 : World, w9 = setCells w8 (⟨r7, 0, none⟩ : Addr) 0 [(Value.int .i64 (1 : Int)), (Slc.v chains3)] →
    ∃ J10 : World → Prop,
    (
      BIf (decide ((20 : Int) < ((down2.l : Nat) : Int))) (
        K (Value.bool true) w9) (
        BIf (decide ((10 : Int) < ((chains3.l : Nat) : Int))) (
          K (Value.bool true) w9) (
          ∃ n11 : Int, ∃ s12 : Slc, rowAt w9 (⟨r7, 0, none⟩ : Addr) 0 [(Value.int .i64 n11), (Slc.v s12)] ∧
          Calls Tryd.prog fn_plan_Right ⟨[(Value.agg ⟨[(Value.int .i64 n11), (Slc.v s12)]⟩)]⟩ w9 fun e13 w14 =>
          ∃ b15 : Bool, e13 = .returned (Value.bool b15) ∧
          BIf (!b15) (
            K (Value.bool true) w14) (
            J10 w14)))) ∧ (
    ∀ w16 : World, J10 w16 → ∀ u17 u18 u19 u20 u21 u22 u23 u24 u25 u26 u27 u28 u29 u30 : Value,
      newS w16 (.cells ⟨[(Value.int .i64 (0 : Int))]⟩ 3) fun r31 w32 =>
      newS w32 (.cells ⟨[(Slc.v (⟨(some (⟨r31, 0, none⟩ : Addr)), 1, 1⟩ : Slc))]⟩ 22) fun r33 w34 =>
      Calls Tryd.prog fn_book_New ⟨[(Value.int .i64 ((1 : Int) + (IntKind.wrap .i64 ((IntKind.wrap .u64 voters1) % (5 : Int))))), (Value.agg ⟨[(Value.int .i64 (0 : Int)), (Slc.v (⟨(some (⟨r33, 0, none⟩ : Addr)), 1, 1⟩ : Slc))]⟩)]⟩ w34 fun e35 w36 =>
      ∃ p37 : Option Addr, ∃ e38 : Value, e35 = .returned (Value.tuple ⟨[(Value.pointer p37), e38]⟩) ∧
      isI e38 ∧
      BIf (!isNilI e38) (
        K (Value.bool false) w36) (
        ∃ (I39 : (Int) → World → Prop) (mu40 : (Int) → World → Nat), I39 ((0 : Int)) w36 ∧ (
        ∀ i41 : Int, ∀ w42 : World, I39 i41 w42 → ∀ u43 u44 u45 u46 u47 u48 u49 u50 : Value,
          BIf (decide (i41 < ((down2.l : Nat) : Int))) (
            needSome down2.p fun a51 =>
            0 ≤ i41 ∧ i41 < ((down2.l : Nat) : Int) ∧
            ∃ n52 : Int, World.cell? w42 (Addr.add a51 ((Int.toNat i41) * 1)) = some (Value.int .i64 n52) ∧
            Calls Tryd.prog fn_book_Book_Set ⟨[(Value.pointer p37), (Value.int .i64 n52), (Value.bool false)]⟩ w42 fun e53 w54 =>
            e53 = .returned (Value.tuple #[]) ∧
            inR .i64 (i41 + (1 : Int)) ∧
            (I39 ((i41 + (1 : Int))) w54 ∧ mu40 ((i41 + (1 : Int))) w54 < mu40 i41 w42)) (
            ∃ n55 : Int, ∃ s56 : Slc, rowAt w42 (⟨r7, 0, none⟩ : Addr) 0 [(Value.int .i64 n55), (Slc.v s56)] ∧
            newS w42 (.cells ⟨[(Value.int .i64 (0 : Int)), (Value.int .i64 (1 : Int)), (Value.int .i64 (2 : Int)), (Value.int .i64 (3 : Int)), (Value.int .i64 (4 : Int))]⟩ 3) fun r57 w58 =>
            Calls Tryd.prog fn_book_Book_Propose ⟨[(Value.pointer p37), (Value.int .i64 (0 : Int)), (Value.agg ⟨[(Value.int .i64 n55), (Slc.v s56)]⟩), (Slc.v (⟨(some (⟨r57, 0, none⟩ : Addr)), 5, 5⟩ : Slc))]⟩ w58 fun e59 w60 =>
            ∃ x61 : Int, ∃ x62 : Slc, ∃ e63 : Value, e59 = .returned (Value.tuple ⟨[(Value.agg ⟨[(Value.int .i64 x61), (Slc.v x62)]⟩), e63]⟩) ∧
            newS w60 (.cells ⟨[(Value.int .i64 (0 : Int)), (Slc.v (⟨none, 0, 0⟩ : Slc))]⟩ 27) fun r64 w65 =>
            canW w65 (⟨r64, 0, none⟩ : Addr) 2 ∧ ∀ w66 : World, w66 = setCells w65 (⟨r64, 0, none⟩ : Addr) 0 [(Value.int .i64 x61), (Slc.v x62)] →
            Calls Tryd.prog fn_book_Book_Up ⟨[(Value.pointer p37)]⟩ w66 fun e67 w68 =>
            ∃ n69 : Int, e67 = .returned (Value.int .i64 n69) ∧
            inR .i64 ((2 : Int) * n69) ∧
            BIf (decide (((2 : Int) * n69) ≤ ((1 : Int) + (IntKind.wrap .i64 ((IntKind.wrap .u64 voters1) % (5 : Int)))))) (
              isI e63 ∧
              BIf (!isNilI e63) (
                Calls Tryd.prog fn_book_Book_Known ⟨[(Value.pointer p37)]⟩ w68 fun e70 w71 =>
                ∃ n72 : Int, e70 = .returned (Value.int .i64 n72) ∧
                K (Value.bool (decide (n72 = (1 : Int)))) w71) (
                K (Value.bool false) w68)) (
              isI e63 ∧
              BIf (isNilI e63) (
                ∃ n73 : Int, ∃ s74 : Slc, rowAt (World.drew w68) (⟨r64, 0, none⟩ : Addr) 0 [(Value.int .i64 n73), (Slc.v s74)] ∧
                ∃ n75 : Int, ∃ s76 : Slc, rowAt (World.drew w68) (⟨r7, 0, none⟩ : Addr) 0 [(Value.int .i64 n75), (Slc.v s76)] ∧
                Calls Tryd.prog fn_plan_Same ⟨[(Value.agg ⟨[(Value.int .i64 n73), (Slc.v s74)]⟩), (Value.agg ⟨[(Value.int .i64 n75), (Slc.v s76)]⟩)]⟩ (World.drew w68) fun e77 w78 =>
                ∃ b79 : Bool, e77 = .returned (Value.bool b79) ∧
                BIf b79 (
                  ∃ n80 : Int, ∃ s81 : Slc, rowAt w78 (⟨r7, 0, none⟩ : Addr) 0 [(Value.int .i64 n80), (Slc.v s81)] ∧
                  Calls Tryd.prog fn_book_Book_Latest ⟨[(Value.pointer p37)]⟩ w78 fun e82 w83 =>
                  ∃ x84 : Int, ∃ x85 : Slc, e82 = .returned (Value.agg ⟨[(Value.int .i64 x84), (Slc.v x85)]⟩) ∧
                  (∃ n86 : Int, ∃ s87 : Slc, rowAt w83 (⟨r7, 0, none⟩ : Addr) 0 [(Value.int .i64 n86), (Slc.v s87)] ∧
                  (Value.agg ⟨[(Value.int .i64 n86), (Slc.v s87)]⟩) = (Value.agg ⟨[(Value.int .i64 n80), (Slc.v s81)]⟩)) ∧
                  Calls Tryd.prog fn_plan_Same ⟨[(Value.agg ⟨[(Value.int .i64 x84), (Slc.v x85)]⟩), (Value.agg ⟨[(Value.int .i64 n80), (Slc.v s81)]⟩)]⟩ w83 fun e88 w89 =>
                  ∃ b90 : Bool, e88 = .returned (Value.bool b90) ∧
                  BIf b90 (
                    Calls Tryd.prog fn_book_Book_Known ⟨[(Value.pointer p37)]⟩ w89 fun e91 w92 =>
                    ∃ n93 : Int, e91 = .returned (Value.int .i64 n93) ∧
                    K (Value.bool (decide (n93 = (2 : Int)))) w92) (
                    K (Value.bool false) w89)) (
                  K (Value.bool false) w78)) (
                K (Value.bool false) (World.drew w68))))))))

theorem tidewaterlaw12_BookHalf_eq (voters1 : Int) (down2 : Slc) (chains3 : Slc) (w : World) (K : Value → World → Prop) : tidewaterlaw12_BookHalf voters1 down2 chains3 w K = denF Tryd.prog callB Tryd.f3 (.two .none (.two .none (.two .none (.two .none (.cut [] [6, 23, 24, 25, 26, 27, 28, 29, 30, 31, 32, 33, 34, 35] .none (.two .none (.two .none (.two (.two .none (.one (.loop [(48, (Sh.int .i64))] [12, 49, 50, 51, 52, 53, 54, 55] .none))) .none)))))))) [(Value.int .i64 voters1), (Slc.v down2), (Slc.v chains3)] w K := by kernel_rfl
theorem tidewaterlaw12_BookHalf_ok (voters1 : Int) (down2 : Slc) (chains3 : Slc) {w : World} {R : Ending → World → Prop} (h : tidewaterlaw12_BookHalf voters1 down2 chains3 w fun v w' => R (.returned v) w') : Calls Tryd.prog fn_tidewaterlaw12_BookHalf ⟨[(Value.int .i64 voters1), (Slc.v down2), (Slc.v chains3)]⟩ w R :=
  calls_of_den callB_ok mixed Tryd.func3 (tidewaterlaw12_BookHalf_eq voters1 down2 chains3 w _ ▸ h)

/-- tidewater/tidewaterlaw12.BookRises -/
def tidewaterlaw12_BookRises (voters1 : Int) (list2 : Slc) (w : World) (K : Value → World → Prop) : Prop :=
  Calls Tryd.prog fn_tidewaterlaw12_alive ⟨[]⟩ w fun e3 w4 =>
  ∃ b5 : Bool, e3 = .returned (Value.bool b5) ∧
  BIf (!b5) (
    K (Value.bool false) w4) (
    Calls Tryd.prog fn_tidewaterlaw12_long ⟨[(Value.agg ⟨[(Value.int .i64 (0 : Int)), (Slc.v (⟨none, 0, 0⟩ : Slc))]⟩), (Slc.v list2)]⟩ w4 fun e6 w7 =>
    ∃ b8 : Bool, e6 = .returned (Value.bool b8) ∧
    BIf b8 (
      K (Value.bool true) w7) (
      0 ≤ (IntKind.wrap .u64 voters1) ∧ 0 < (5 : Int) ∧
      inR .i64 ((1 : Int) + (IntKind.wrap .i64 ((IntKind.wrap .u64 voters1) % (5 : Int)))) ∧
      newS w7 (.cells ⟨[(Value.int .i64 (0 : Int))]⟩ 3) fun r9 w10 =>
      newS w10 (.cells ⟨[(Slc.v (⟨(some (⟨r9, 0, none⟩ : Addr)), 1, 1⟩ : Slc))]⟩ 22) fun r11 w12 =>
      Calls Tryd.prog fn_book_New ⟨[(Value.int .i64 ((1 : Int) + (IntKind.wrap .i64 ((IntKind.wrap .u64 voters1) % (5 : Int))))), (Value.agg ⟨[(Value.int .i64 (0 : Int)), (Slc.v (⟨(some (⟨r11, 0, none⟩ : Addr)), 1, 1⟩ : Slc))]⟩)]⟩ w12 fun e13 w14 =>
      ∃ p15 : Option Addr, ∃ e16 : Value, e13 = .returned (Value.tuple ⟨[(Value.pointer p15), e16]⟩) ∧
      ∃ J17 : World → Prop,
      (
        isI e16 ∧
        BIf (!isNilI e16) (
          K (Value.bool false) w14) (
          BIf (Option.isNone (p15 : Option Addr)) (
            K (Value.bool false) w14) (
            J17 w14))) ∧ (
      ∀ w18 : World, J17 w18 → ∀ u19 u20 u21 u22 u23 u24 u25 : Value,
        newS w18 (.cells ⟨[]⟩ 27) fun r26 w27 =>
        ∃ (I28 : (Slc) → (Int) → World → Prop) (mu29 : (Slc) → (Int) → World → Nat), I28 ((⟨(some (⟨r26, 0, none⟩ : Addr)), 0, 0⟩ : Slc)) ((0 : Int)) w27 ∧ (
        ∀ proposed30 : Slc, ∀ i31 : Int, ∀ w32 : World, I28 proposed30 i31 w32 → ∀ u33 u34 u35 u36 u37 u38 u39 u40 u41 u42 u43 u44 u45 u46 u47 u48 u49 u50 u51 u52 u53 u54 u55 u56 u57 u58 u59 u60 u61 u62 u63 u64 u65 u66 u67 u68 u69 u70 u71 u72 u73 u74 u75 u76 u77 u78 u79 u80 u81 u82 u83 u84 u85 u86 u87 u88 u89 u90 u91 u92 u93 u94 u95 u96 u97 u98 u99 u100 u101 u102 u103 u104 u105 u106 u107 u108 u109 u110 u111 u112 u113 u114 u115 u116 u117 u118 u119 u120 u121 u122 u123 u124 u125 u126 u127 u128 : Value,
          BIf (decide (i31 < ((list2.l : Nat) : Int))) (
            needSome list2.p fun a129 =>
            0 ≤ i31 ∧ i31 < ((list2.l : Nat) : Int) ∧
            ∃ n130 : Int, ∃ n131 : Int, ∃ n132 : Int, ∃ n133 : Int, ∃ s134 : Slc, ∃ s135 : Slc, rowAt w32 (Addr.add a129 ((Int.toNat i31) * 6)) 0 [(Value.int .i64 n130), (Value.int .i64 n131), (Value.int .i64 n132), (Value.int .i64 n133), (Slc.v s134), (Slc.v s135)] ∧
            newS w32 (.cells ⟨[(Value.int .i64 (0 : Int)), (Value.int .i64 (0 : Int)), (Value.int .i64 (0 : Int)), (Value.int .i64 (0 : Int)), (Slc.v (⟨none, 0, 0⟩ : Slc)), (Slc.v (⟨none, 0, 0⟩ : Slc))]⟩ 45) fun r136 w137 =>
            canW w137 (⟨r136, 0, none⟩ : Addr) 6 ∧ ∀ w138 : World, w138 = setCells w137 (⟨r136, 0, none⟩ : Addr) 0 [(Value.int .i64 n130), (Value.int .i64 n131), (Value.int .i64 n132), (Value.int .i64 n133), (Slc.v s134), (Slc.v s135)] →
            Calls Tryd.prog fn_book_Book_Latest ⟨[(Value.pointer p15)]⟩ w138 fun e139 w140 =>
            ∃ x141 : Int, ∃ x142 : Slc, e139 = .returned (Value.agg ⟨[(Value.int .i64 x141), (Slc.v x142)]⟩) ∧
            newS w140 (.cells ⟨[(Value.int .i64 (0 : Int)), (Slc.v (⟨none, 0, 0⟩ : Slc))]⟩ 27) fun r143 w144 =>
            canW w144 (⟨r143, 0, none⟩ : Addr) 2 ∧ ∀ w145 : World, w145 = setCells w144 (⟨r143, 0, none⟩ : Addr) 0 [(Value.int .i64 x141), (Slc.v x142)] →
            ∃ J146 : (Slc) → World → Prop,
            (
              ∃ n147 : Int, World.cell? w145 (⟨r136, 0, none⟩ : Addr) = some (Value.int .i64 n147) ∧
              BIf (decide (n147 = (0 : Int))) (
                ∃ n148 : Int, World.cell? w145 (⟨r143, 0, none⟩ : Addr) = some (Value.int .i64 n148) ∧
                inR .i64 (n148 + (1 : Int)) ∧
                ∃ s149 : Slc, World.cell? w145 (⟨r136, 4, none⟩ : Addr) = some (Slc.v s149) ∧
                newS w145 (.cells ⟨[(Value.int .i64 (0 : Int)), (Slc.v (⟨none, 0, 0⟩ : Slc))]⟩ 27) fun r150 w151 =>
                canW w151 (⟨r150, 0, none⟩ : Addr) 2 ∧ ∀ w152 : World, w152 = setCells w151 (⟨r150, 0, none⟩ : Addr) 0 [(Value.int .i64 (n148 + (1 : Int))), (Slc.v s149)] →
                ∃ n153 : Int, ∃ s154 : Slc, rowAt w152 (⟨r150, 0, none⟩ : Addr) 0 [(Value.int .i64 n153), (Slc.v s154)] ∧
                Calls Tryd.prog fn_plan_Copy ⟨[(Value.agg ⟨[(Value.int .i64 n153), (Slc.v s154)]⟩)]⟩ w152 fun e155 w156 =>
                ∃ x157 : Int, ∃ x158 : Slc, e155 = .returned (Value.agg ⟨[(Value.int .i64 x157), (Slc.v x158)]⟩) ∧
                newS w156 (.cells ⟨[(Value.int .i64 x157), (Slc.v x158)]⟩ 27) fun r159 w160 =>
                appendS 2 27 [(Value.int .i64 (0 : Int)), (Slc.v (⟨none, 0, 0⟩ : Slc))] w160 proposed30 (.slc (⟨(some (⟨r159, 0, none⟩ : Addr)), 1, 1⟩ : Slc)) fun s161 w162 =>
                ∃ n163 : Int, World.cell? w162 (⟨r136, 1, none⟩ : Addr) = some (Value.int .i64 n163) ∧
                ∃ n164 : Int, ∃ s165 : Slc, rowAt w162 (⟨r150, 0, none⟩ : Addr) 0 [(Value.int .i64 n164), (Slc.v s165)] ∧
                ∃ s166 : Slc, World.cell? w162 (⟨r136, 5, none⟩ : Addr) = some (Slc.v s166) ∧
                Calls Tryd.prog fn_book_Book_Propose ⟨[(Value.pointer p15), (Value.int .i64 n163), (Value.agg ⟨[(Value.int .i64 n164), (Slc.v s165)]⟩), (Slc.v s166)]⟩ w162 fun e167 w168 =>
                ∃ x169 : Int, ∃ x170 : Slc, ∃ e171 : Value, e167 = .returned (Value.tuple ⟨[(Value.agg ⟨[(Value.int .i64 x169), (Slc.v x170)]⟩), e171]⟩) ∧
                newS w168 (.cells ⟨[(Value.int .i64 (0 : Int)), (Slc.v (⟨none, 0, 0⟩ : Slc))]⟩ 27) fun r172 w173 =>
                canW w173 (⟨r172, 0, none⟩ : Addr) 2 ∧ ∀ w174 : World, w174 = setCells w173 (⟨r172, 0, none⟩ : Addr) 0 [(Value.int .i64 x169), (Slc.v x170)] →
                isI e171 ∧
                BIf (isNilI e171) (
                  ∃ n175 : Int, ∃ s176 : Slc, rowAt (World.drew w174) (⟨r172, 0, none⟩ : Addr) 0 [(Value.int .i64 n175), (Slc.v s176)] ∧
                  Calls Tryd.prog fn_book_Book_Latest ⟨[(Value.pointer p15)]⟩ (World.drew w174) fun e177 w178 =>
                  ∃ x179 : Int, ∃ x180 : Slc, e177 = .returned (Value.agg ⟨[(Value.int .i64 x179), (Slc.v x180)]⟩) ∧
                  (∃ n181 : Int, ∃ s182 : Slc, rowAt w178 (⟨r172, 0, none⟩ : Addr) 0 [(Value.int .i64 n181), (Slc.v s182)] ∧
                  (Value.agg ⟨[(Value.int .i64 n181), (Slc.v s182)]⟩) = (Value.agg ⟨[(Value.int .i64 n175), (Slc.v s176)]⟩)) ∧
                  Calls Tryd.prog fn_plan_Same ⟨[(Value.agg ⟨[(Value.int .i64 n175), (Slc.v s176)]⟩), (Value.agg ⟨[(Value.int .i64 x179), (Slc.v x180)]⟩)]⟩ w178 fun e183 w184 =>
                  ∃ b185 : Bool, e183 = .returned (Value.bool b185) ∧
                  BIf (!b185) (
                    K (Value.bool false) w184) (
                    ∃ n186 : Int, World.cell? w184 (⟨r172, 0, none⟩ : Addr) = some (Value.int .i64 n186) ∧
                    ∃ n187 : Int, World.cell? w184 (⟨r143, 0, none⟩ : Addr) = some (Value.int .i64 n187) ∧
                    inR .i64 (n187 + (1 : Int)) ∧
                    BIf (!decide (n186 = (n187 + (1 : Int)))) (
                      K (Value.bool false) w184) (
                      ∃ n188 : Int, ∃ s189 : Slc, rowAt w184 (⟨r172, 0, none⟩ : Addr) 0 [(Value.int .i64 n188), (Slc.v s189)] ∧
                      Calls Tryd.prog fn_tidewaterlaw12_among ⟨[(Value.agg ⟨[(Value.int .i64 n188), (Slc.v s189)]⟩), (Slc.v s161)]⟩ w184 fun e190 w191 =>
                      ∃ b192 : Bool, e190 = .returned (Value.bool b192) ∧
                      BIf (!b192) (
                        K (Value.bool false) w191) (
                        J146 (s161) w191)))) (
                  J146 (s161) (World.drew w174))) (
                BIf (decide (n147 = (1 : Int))) (
                  ∃ n193 : Int, World.cell? w145 (⟨r136, 2, none⟩ : Addr) = some (Value.int .i64 n193) ∧
                  Calls Tryd.prog fn_book_Book_Set ⟨[(Value.pointer p15), (Value.int .i64 n193), (Value.bool true)]⟩ w145 fun e194 w195 =>
                  e194 = .returned (Value.tuple #[]) ∧
                  J146 (proposed30) w195) (
                  ∃ n196 : Int, World.cell? w145 (⟨r136, 2, none⟩ : Addr) = some (Value.int .i64 n196) ∧
                  Calls Tryd.prog fn_book_Book_Set ⟨[(Value.pointer p15), (Value.int .i64 n196), (Value.bool false)]⟩ w145 fun e197 w198 =>
                  e197 = .returned (Value.tuple #[]) ∧
                  J146 (proposed30) w198))) ∧ (
            ∀ proposed199 : Slc, ∀ w200 : World, J146 proposed199 w200 → ∀ u201 u202 u203 u204 u205 u206 u207 u208 u209 u210 u211 u212 u213 u214 u215 u216 u217 u218 u219 u220 u221 u222 u223 u224 u225 u226 u227 u228 u229 u230 u231 u232 u233 u234 u235 u236 u237 u238 u239 u240 u241 u242 u243 u244 u245 u246 u247 u248 u249 u250 u251 u252 u253 u254 u255 u256 u257 u258 u259 u260 u261 u262 : Value,
              ∃ n263 : Int, World.cell? w200 (⟨r143, 0, none⟩ : Addr) = some (Value.int .i64 n263) ∧
              Calls Tryd.prog fn_book_Book_At ⟨[(Value.pointer p15), (Value.int .i64 n263)]⟩ w200 fun e264 w265 =>
              ∃ x266 : Int, ∃ x267 : Slc, ∃ e268 : Value, e264 = .returned (Value.tuple ⟨[(Value.agg ⟨[(Value.int .i64 x266), (Slc.v x267)]⟩), e268]⟩) ∧
              newS w265 (.cells ⟨[(Value.int .i64 (0 : Int)), (Slc.v (⟨none, 0, 0⟩ : Slc))]⟩ 27) fun r269 w270 =>
              canW w270 (⟨r269, 0, none⟩ : Addr) 2 ∧ ∀ w271 : World, w271 = setCells w270 (⟨r269, 0, none⟩ : Addr) 0 [(Value.int .i64 x266), (Slc.v x267)] →
              isI e268 ∧
              BIf (!isNilI e268) (
                K (Value.bool false) w271) (
                ∃ n272 : Int, ∃ s273 : Slc, rowAt w271 (⟨r269, 0, none⟩ : Addr) 0 [(Value.int .i64 n272), (Slc.v s273)] ∧
                ∃ n274 : Int, ∃ s275 : Slc, rowAt w271 (⟨r143, 0, none⟩ : Addr) 0 [(Value.int .i64 n274), (Slc.v s275)] ∧
                Calls Tryd.prog fn_plan_Same ⟨[(Value.agg ⟨[(Value.int .i64 n272), (Slc.v s273)]⟩), (Value.agg ⟨[(Value.int .i64 n274), (Slc.v s275)]⟩)]⟩ w271 fun e276 w277 =>
                ∃ b278 : Bool, e276 = .returned (Value.bool b278) ∧
                BIf (!b278) (
                  K (Value.bool false) w277) (
                  Calls Tryd.prog fn_book_Book_Known ⟨[(Value.pointer p15)]⟩ w277 fun e279 w280 =>
                  ∃ n281 : Int, e279 = .returned (Value.int .i64 n281) ∧
                  Calls Tryd.prog fn_book_Book_Latest ⟨[(Value.pointer p15)]⟩ w280 fun e282 w283 =>
                  ∃ x284 : Int, ∃ x285 : Slc, e282 = .returned (Value.agg ⟨[(Value.int .i64 x284), (Slc.v x285)]⟩) ∧
                  inR .i64 (x284 + (1 : Int)) ∧
                  BIf (!decide (n281 = (x284 + (1 : Int)))) (
                    K (Value.bool false) w283) (
                    inR .i64 (i31 + (1 : Int)) ∧
                    (I28 (proposed199) ((i31 + (1 : Int))) w283 ∧ mu29 (proposed199) ((i31 + (1 : Int))) w283 < mu29 proposed30 i31 w32)))))) (
            K (Value.bool true) w32)))))

theorem tidewaterlaw12_BookRises_eq (voters1 : Int) (list2 : Slc) (w : World) (K : Value → World → Prop) : tidewaterlaw12_BookRises voters1 list2 w K = denF Tryd.prog callB Tryd.f4 (.two .none (.two .none (.two .none (.two .none (.cut [] [4, 33, 34, 35, 36, 37, 38] .none (.two .none (.two (.two .none (.one (.loop [(7, Sh.slc), (42, (Sh.int .i64))] [4, 9, 10, 11, 12, 13, 14, 15, 43, 44, 45, 46, 47, 48, 49, 50, 51, 52, 53, 54, 55, 56, 57, 58, 59, 60, 61, 62, 63, 64, 65, 66, 67, 68, 69, 70, 71, 72, 73, 74, 75, 76, 77, 78, 79, 80, 81, 82, 83, 84, 85, 86, 87, 88, 89, 90, 91, 92, 93, 94, 95, 96, 97, 98, 99, 100, 101, 102, 103, 104, 105, 106, 107, 108, 109, 110, 111, 112, 113, 114, 115, 116, 117, 118, 119, 120, 121, 122, 123, 124, 125, 126, 127, 128, 129, 130] (.two .none (.two .none (.two (.one (.two .none (.two .none (.cut [(7, Sh.slc)] [4, 11, 12, 13, 48, 49, 50, 51, 52, 53, 54, 55, 56, 57, 58, 59, 60, 61, 62, 63, 64, 65, 66, 67, 68, 69, 70, 71, 72, 73, 74, 75, 76, 77, 78, 79, 80, 81, 82, 83, 84, 85, 86, 87, 88, 89, 90, 91, 92, 93, 94, 95, 96, 97, 98, 99, 100, 101, 102, 103, 104, 105] .none .none)))) .none)))))) .none))))))) [(Value.int .i64 voters1), (Slc.v list2)] w K := by kernel_rfl
theorem tidewaterlaw12_BookRises_ok (voters1 : Int) (list2 : Slc) {w : World} {R : Ending → World → Prop} (h : tidewaterlaw12_BookRises voters1 list2 w fun v w' => R (.returned v) w') : Calls Tryd.prog fn_tidewaterlaw12_BookRises ⟨[(Value.int .i64 voters1), (Slc.v list2)]⟩ w R :=
  calls_of_den callB_ok mixed Tryd.func4 (tidewaterlaw12_BookRises_eq voters1 list2 w _ ▸ h)

end Go.D
