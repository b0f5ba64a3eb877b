/-
  WHAT IS PROVED: verification conditions of functions of this program, each with its soundness. No further conditions.
-/
import Derived.Test.YtjlolhdndholdaaDoorBase
set_option linter.unusedSimpArgs false
set_option maxRecDepth 100000
set_option linter.unusedVariables false
namespace Go.D
open Go Go.Proofs
/-- tidewater/book.New -/
def book_New (voters1 : Int) (first2 : Int) (first3 : Slc) (w : World) (K : Value → World → Prop) : Prop :=
  newS w (.cells ⟨[(Value.int .i64 first2), (Slc.v first3)]⟩ 27) fun r4 w5 =>
  ∃ J6 : World → Prop,
  (
    BIf (decide (voters1 < (1 : Int))) (
      ∃ v7 : Value, World.cell? (World.drew w5) (⟨gl_ErrRange, 0, none⟩ : Addr) = some v7 ∧
      K (Value.tuple ⟨[(Value.pointer none), v7]⟩) (World.drew w5)) (
      BIf (decide ((5 : Int) < voters1)) (
        ∃ v8 : Value, World.cell? (World.drew w5) (⟨gl_ErrRange, 0, none⟩ : Addr) = some v8 ∧
        K (Value.tuple ⟨[(Value.pointer none), v8]⟩) (World.drew w5)) (
        ∃ n9 : Int, ∃ s10 : Slc, rowAt w5 (⟨r4, 0, none⟩ : Addr) 0 [(Value.int .i64 n9), (Slc.v s10)] ∧
        Calls Tryd.prog fn_plan_Right ⟨[(Value.agg ⟨[(Value.int .i64 n9), (Slc.v s10)]⟩)]⟩ w5 fun e11 w12 =>
        ∃ b13 : Bool, e11 = .returned (Value.bool b13) ∧
        BIf (!b13) (
          ∃ v14 : Value, World.cell? (World.drew w12) (⟨gl_ErrForm, 0, none⟩ : Addr) = some v14 ∧
          K (Value.tuple ⟨[(Value.pointer none), v14]⟩) (World.drew w12)) (
          J6 w12)))) ∧ (
  ∀ w15 : World, J6 w15 → ∀ u16 u17 u18 u19 u20 u21 u22 u23 u24 u25 u26 u27 u28 u29 u30 : Value,
    ∃ n31 : Int, ∃ s32 : Slc, rowAt w15 (⟨r4, 0, none⟩ : Addr) 0 [(Value.int .i64 n31), (Slc.v s32)] ∧
    Calls Tryd.prog fn_plan_Copy ⟨[(Value.agg ⟨[(Value.int .i64 n31), (Slc.v s32)]⟩)]⟩ w15 fun e33 w34 =>
    ∃ x35 : Int, ∃ x36 : Slc, e33 = .returned (Value.agg ⟨[(Value.int .i64 x35), (Slc.v x36)]⟩) ∧
    newS w34 (.cells ⟨[(Value.int .i64 x35), (Slc.v x36)]⟩ 27) fun r37 w38 =>
    newS w38 (.cells ⟨[(Slc.v (⟨none, 0, 0⟩ : Slc)), (Slc.v (⟨(some (⟨r37, 0, none⟩ : Addr)), 1, 1⟩ : Slc))]⟩ 57) fun r39 w40 =>
    ∃ (I41 : (Int) → World → Prop) (mu42 : (Int) → World → Nat), I41 ((0 : Int)) w40 ∧ (
    ∀ i43 : Int, ∀ w44 : World, I41 i43 w44 → ∀ u45 u46 u47 u48 u49 u50 u51 u52 u53 u54 u55 u56 u57 u58 u59 : Value,
      BIf (decide (i43 < voters1)) (
        ∃ s60 : Slc, World.cell? w44 (⟨r39, 0, none⟩ : Addr) = some (Slc.v s60) ∧
        newS w44 (.cells ⟨[(Value.map none)]⟩ 62) fun r61 w62 =>
        newS w62 (.cells ⟨[(Value.pointer (some (⟨r61, 0, none⟩ : Addr))), (Value.bool true), (Slc.v (⟨none, 0, 0⟩ : Slc))]⟩ 65) fun r63 w64 =>
        newS w64 (.cells ⟨[(Value.pointer (some (⟨r63, 0, none⟩ : Addr)))]⟩ 58) fun r65 w66 =>
        appendS 1 58 [(Value.pointer none)] w66 s60 (.slc (⟨(some (⟨r65, 0, none⟩ : Addr)), 1, 1⟩ : Slc)) fun s67 w68 =>
        canW w68 (⟨r39, 0, none⟩ : Addr) 1 ∧ ∀ w69 : World, w69 = World.setCell w68 (⟨r39, 0, none⟩ : Addr) (Slc.v s67) →
        inR .i64 (i43 + (1 : Int)) ∧
        (I41 ((i43 + (1 : Int))) w69 ∧ mu42 ((i43 + (1 : Int))) w69 < mu42 i43 w44)) (
        K (Value.tuple ⟨[(Value.pointer (some (⟨r39, 0, none⟩ : Addr))), Value.nilIface]⟩) w44)))

theorem book_New_eq (voters1 : Int) (first2 : Int) (first3 : Slc) (w : World) (K : Value → World → Prop) : book_New voters1 first2 first3 w K = denF Tryd.prog callB Tryd.f7 (.two .none (.cut [] [4, 5, 7, 8, 9, 10, 11, 12, 13, 14, 15, 16, 17, 18, 19] .none (.two .none (.two (.two .none (.one (.loop [(26, (Sh.int .i64))] [27, 28, 29, 30, 31, 32, 33, 34, 35, 36, 37, 38, 39, 40, 41] .none))) .none)))) [(Value.int .i64 voters1), (Value.agg ⟨[(Value.int .i64 first2), (Slc.v first3)]⟩)] w K := by kernel_rfl
theorem book_New_ok (voters1 : Int) (first2 : Int) (first3 : Slc) {w : World} {R : Ending → World → Prop} (h : book_New voters1 first2 first3 w fun v w' => R (.returned v) w') : Calls Tryd.prog fn_book_New ⟨[(Value.int .i64 voters1), (Value.agg ⟨[(Value.int .i64 first2), (Slc.v first3)]⟩)]⟩ w R :=
  calls_of_den callB_ok mixed Tryd.func7 (book_New_eq voters1 first2 first3 w _ ▸ h)

/-- (*tidewater/book.Book).has -/
def book_Book_has (b1 : Option Addr) (i2 : Int) (w : World) (K : Value → World → Prop) : Prop :=
  BIf (decide ((0 : Int) ≤ i2)) (
    needSome b1 fun a3 =>
    ∃ s4 : Slc, World.cell? w a3 = some (Slc.v s4) ∧
    K (Value.bool (decide (i2 < ((s4.l : Nat) : Int)))) w) (
    K (Value.bool false) w)

theorem book_Book_has_eq (b1 : Option Addr) (i2 : Int) (w : World) (K : Value → World → Prop) : book_Book_has b1 i2 w K = denF Tryd.prog callB Tryd.f25 .none [(Value.pointer b1), (Value.int .i64 i2)] w K := by kernel_rfl
theorem book_Book_has_ok (b1 : Option Addr) (i2 : Int) {w : World} {R : Ending → World → Prop} (h : book_Book_has b1 i2 w fun v w' => R (.returned v) w') : Calls Tryd.prog fn_book_Book_has ⟨[(Value.pointer b1), (Value.int .i64 i2)]⟩ w R :=
  calls_of_den callB_ok mixed Tryd.func25 (book_Book_has_eq b1 i2 w _ ▸ h)

/-- (*tidewater/book.Book).Set -/
def book_Book_Set (b1 : Option Addr) (i2 : Int) (up3 : Bool) (w : World) (K : Value → World → Prop) : Prop :=
  Calls Tryd.prog fn_book_Book_has ⟨[(Value.pointer b1), (Value.int .i64 i2)]⟩ w fun e4 w5 =>
  ∃ b6 : Bool, e4 = .returned (Value.bool b6) ∧
  BIf b6 (
    needSome b1 fun a7 =>
    ∃ s8 : Slc, World.cell? w5 a7 = some (Slc.v s8) ∧
    needSome s8.p fun a9 =>
    0 ≤ i2 ∧ i2 < ((s8.l : Nat) : Int) ∧
    ∃ p10 : Option Addr, World.cell? w5 (Addr.add a9 ((Int.toNat i2) * 1)) = some (Value.pointer p10) ∧
    needSome p10 fun a11 =>
    canW w5 (a11.add 1) 1 ∧ ∀ w12 : World, w12 = World.setCell w5 (a11.add 1) (Value.bool up3) →
    K (Value.tuple #[]) w12) (
    K (Value.tuple #[]) w5)

theorem book_Book_Set_eq (b1 : Option Addr) (i2 : Int) (up3 : Bool) (w : World) (K : Value → World → Prop) : book_Book_Set b1 i2 up3 w K = denF Tryd.prog callB Tryd.f8 .none [(Value.pointer b1), (Value.int .i64 i2), (Value.bool up3)] w K := by kernel_rfl
theorem book_Book_Set_ok (b1 : Option Addr) (i2 : Int) (up3 : Bool) {w : World} {R : Ending → World → Prop} (h : book_Book_Set b1 i2 up3 w fun v w' => R (.returned v) w') : Calls Tryd.prog fn_book_Book_Set ⟨[(Value.pointer b1), (Value.int .i64 i2), (Value.bool up3)]⟩ w R :=
  calls_of_den callB_ok mixed Tryd.func8 (book_Book_Set_eq b1 i2 up3 w _ ▸ h)

/-- (*tidewater/book.Book).Up -/
def book_Book_Up (b1 : Option Addr) (w : World) (K : Value → World → Prop) : Prop :=
  needSome b1 fun a2 =>
  ∃ s3 : Slc, World.cell? w a2 = some (Slc.v s3) ∧
  ∃ (I4 : (Int) → (Int) → World → Prop) (mu5 : (Int) → (Int) → World → Nat), I4 ((0 : Int)) ((0 : Int)) w ∧ (
  ∀ n6 : Int, ∀ i7 : Int, ∀ w8 : World, I4 n6 i7 w8 → ∀ u9 u10 u11 u12 u13 u14 u15 u16 u17 u18 u19 : Value,
    BIf (decide (i7 < ((s3.l : Nat) : Int))) (
      needSome s3.p fun a20 =>
      0 ≤ i7 ∧ i7 < ((s3.l : Nat) : Int) ∧
      ∃ p21 : Option Addr, World.cell? w8 (Addr.add a20 ((Int.toNat i7) * 1)) = some (Value.pointer p21) ∧
      needSome p21 fun a22 =>
      ∃ b23 : Bool, World.cell? w8 (a22.add 1) = some (Value.bool b23) ∧
      BIf b23 (
        inR .i64 (n6 + (1 : Int)) ∧
        inR .i64 (i7 + (1 : Int)) ∧
        (I4 ((n6 + (1 : Int))) ((i7 + (1 : Int))) w8 ∧ mu5 ((n6 + (1 : Int))) ((i7 + (1 : Int))) w8 < mu5 n6 i7 w8)) (
        inR .i64 (i7 + (1 : Int)) ∧
        (I4 (n6) ((i7 + (1 : Int))) w8 ∧ mu5 (n6) ((i7 + (1 : Int))) w8 < mu5 n6 i7 w8))) (
      K (Value.int .i64 n6) w8))

theorem book_Book_Up_eq (b1 : Option Addr) (w : World) (K : Value → World → Prop) : book_Book_Up b1 w K = denF Tryd.prog callB Tryd.f10 (.two .none (.two .none (.two (.two .none (.one (.loop [(3, (Sh.int .i64)), (11, (Sh.int .i64))] [5, 12, 13, 14, 15, 16, 17, 18, 19, 20, 21] .none))) .none))) [(Value.pointer b1)] w K := by kernel_rfl
theorem book_Book_Up_ok (b1 : Option Addr) {w : World} {R : Ending → World → Prop} (h : book_Book_Up b1 w fun v w' => R (.returned v) w') : Calls Tryd.prog fn_book_Book_Up ⟨[(Value.pointer b1)]⟩ w R :=
  calls_of_den callB_ok mixed Tryd.func10 (book_Book_Up_eq b1 w _ ▸ h)

/-- (*tidewater/book.Book).latest -/
def book_Book_latest (b1 : Option Addr) (w : World) (K : Value → World → Prop) : Prop :=
  newS w (.cells ⟨[(Value.int .i64 (0 : Int)), (Slc.v (⟨none, 0, 0⟩ : Slc))]⟩ 27) fun r2 w3 =>
  needSome b1 fun a4 =>
  ∃ s5 : Slc, World.cell? (World.drew w3) (a4.add 1) = some (Slc.v s5) ∧
  needSome b1 fun a6 =>
  ∃ s7 : Slc, World.cell? (World.drew w3) (a6.add 1) = some (Slc.v s7) ∧
  inR .i64 (((s7.l : Nat) : Int) - (1 : Int)) ∧
  needSome s5.p fun a8 =>
  0 ≤ (((s7.l : Nat) : Int) - (1 : Int)) ∧ (((s7.l : Nat) : Int) - (1 : Int)) < ((s5.l : Nat) : Int) ∧
  ∃ n9 : Int, ∃ s10 : Slc, rowAt (World.drew w3) (Addr.add a8 ((Int.toNat (((s7.l : Nat) : Int) - (1 : Int))) * 2)) 0 [(Value.int .i64 n9), (Slc.v s10)] ∧
  canW (World.drew w3) (⟨r2, 0, none⟩ : Addr) 2 ∧ ∀ w11 : World, w11 = setCells (World.drew w3) (⟨r2, 0, none⟩ : Addr) 0 [(Value.int .i64 n9), (Slc.v s10)] →
  ∃ n12 : Int, ∃ s13 : Slc, rowAt w11 (⟨r2, 0, none⟩ : Addr) 0 [(Value.int .i64 n12), (Slc.v s13)] ∧
  K (Value.agg ⟨[(Value.int .i64 n12), (Slc.v s13)]⟩) w11

theorem book_Book_latest_eq (b1 : Option Addr) (w : World) (K : Value → World → Prop) : book_Book_latest b1 w K = denF Tryd.prog callB Tryd.f27 .none [(Value.pointer b1)] w K := by kernel_rfl
theorem book_Book_latest_ok (b1 : Option Addr) {w : World} {R : Ending → World → Prop} (h : book_Book_latest b1 w fun v w' => R (.returned v) w') : Calls Tryd.prog fn_book_Book_latest ⟨[(Value.pointer b1)]⟩ w R :=
  calls_of_den callB_ok mixed Tryd.func27 (book_Book_latest_eq b1 w _ ▸ h)

/-- (*tidewater/book.seat).do -/
def book_seat_do (s1 : Option Addr) (x2 : Bool) (x3 : Int) (x4 : Int) (x5 : List UInt8) (w : World) (K : Value → World → Prop) : Prop :=
  newS w (.cells ⟨[(Value.bool x2), (Value.int .i64 x3), (Value.int .i64 x4), (strV x5)]⟩ 78) fun r6 w7 =>
  newS w7 (.cells ⟨[(Value.bool false), (Value.int .i64 (0 : Int)), (strV ([] : List UInt8))]⟩ 74) fun r8 w9 =>
  needSome s1 fun a10 =>
  ∃ s11 : Slc, World.cell? (World.drew w9) (a10.add 2) = some (Slc.v s11) ∧
  ∃ b12 : Bool, ∃ n13 : Int, ∃ n14 : Int, ∃ t15 : List UInt8, rowAt (World.drew w9) (⟨r6, 0, none⟩ : Addr) 0 [(Value.bool b12), (Value.int .i64 n13), (Value.int .i64 n14), (strV t15)] ∧
  newS (World.drew w9) (.cells ⟨[(Value.bool b12), (Value.int .i64 n13), (Value.int .i64 n14), (strV t15)]⟩ 78) fun r16 w17 =>
  (∃ s18 : Slc, World.cell? w17 (a10.add 2) = some (Slc.v s18) ∧
  (Slc.v s18) = (Slc.v s11)) ∧
  appendS 4 78 [(Value.bool false), (Value.int .i64 (0 : Int)), (Value.int .i64 (0 : Int)), (strV ([] : List UInt8))] w17 s11 (.slc (⟨(some (⟨r16, 0, none⟩ : Addr)), 1, 1⟩ : Slc)) fun s19 w20 =>
  needSome s1 fun a21 =>
  canW w20 (a21.add 2) 1 ∧ ∀ w22 : World, w22 = World.setCell w20 (a21.add 2) (Slc.v s19) →
  ∃ b23 : Bool, World.cell? w22 (⟨r6, 0, none⟩ : Addr) = some (Value.bool b23) ∧
  BIf b23 (
    needSome s1 fun a24 =>
    ∃ p25 : Option Addr, World.cell? (World.drew w22) a24 = some (Value.pointer p25) ∧
    ∃ n26 : Int, World.cell? (World.drew w22) (⟨r6, 1, none⟩ : Addr) = some (Value.int .i64 n26) ∧
    ∃ n27 : Int, World.cell? (World.drew w22) (⟨r6, 2, none⟩ : Addr) = some (Value.int .i64 n27) ∧
    ∃ t28 : List UInt8, World.cell? (World.drew w22) (⟨r6, 3, none⟩ : Addr) = some (strV t28) ∧
    Calls Tryd.prog fn_vote_Voter_Accept ⟨[(Value.pointer p25), (Value.int .i64 n26), (Value.int .i64 n27), (strV t28)]⟩ (World.drew w22) fun e29 w30 =>
    ∃ b31 : Bool, e29 = .returned (Value.bool b31) ∧
    canW w30 (⟨r8, 0, none⟩ : Addr) 3 ∧ ∀ w32 : World, w32 = setCells w30 (⟨r8, 0, none⟩ : Addr) 0 [(Value.bool false), (Value.int .i64 (0 : Int)), (strV ([] : List UInt8))] →
    ∃ b33 : Bool, ∃ n34 : Int, ∃ t35 : List UInt8, rowAt w32 (⟨r8, 0, none⟩ : Addr) 0 [(Value.bool b33), (Value.int .i64 n34), (strV t35)] ∧
    K (Value.tuple ⟨[(Value.agg ⟨[(Value.bool b33), (Value.int .i64 n34), (strV t35)]⟩), (Value.bool b31)]⟩) w32) (
    needSome s1 fun a36 =>
    ∃ p37 : Option Addr, World.cell? (World.drew w22) a36 = some (Value.pointer p37) ∧
    ∃ n38 : Int, World.cell? (World.drew w22) (⟨r6, 1, none⟩ : Addr) = some (Value.int .i64 n38) ∧
    ∃ n39 : Int, World.cell? (World.drew w22) (⟨r6, 2, none⟩ : Addr) = some (Value.int .i64 n39) ∧
    Calls Tryd.prog fn_vote_Voter_Prepare ⟨[(Value.pointer p37), (Value.int .i64 n38), (Value.int .i64 n39)]⟩ (World.drew w22) fun e40 w41 =>
    ∃ x42 : Bool, ∃ x43 : Int, ∃ x44 : List UInt8, e40 = .returned (Value.agg ⟨[(Value.bool x42), (Value.int .i64 x43), (strV x44)]⟩) ∧
    canW w41 (⟨r8, 0, none⟩ : Addr) 3 ∧ ∀ w45 : World, w45 = setCells w41 (⟨r8, 0, none⟩ : Addr) 0 [(Value.bool x42), (Value.int .i64 x43), (strV x44)] →
    ∃ b46 : Bool, ∃ n47 : Int, ∃ t48 : List UInt8, rowAt w45 (⟨r8, 0, none⟩ : Addr) 0 [(Value.bool b46), (Value.int .i64 n47), (strV t48)] ∧
    K (Value.tuple ⟨[(Value.agg ⟨[(Value.bool b46), (Value.int .i64 n47), (strV t48)]⟩), (Value.bool false)]⟩) w45)

theorem book_seat_do_eq (s1 : Option Addr) (x2 : Bool) (x3 : Int) (x4 : Int) (x5 : List UInt8) (w : World) (K : Value → World → Prop) : book_seat_do s1 x2 x3 x4 x5 w K = denF Tryd.prog callB Tryd.f29 .none [(Value.pointer s1), (Value.agg ⟨[(Value.bool x2), (Value.int .i64 x3), (Value.int .i64 x4), (strV x5)]⟩)] w K := by kernel_rfl
theorem book_seat_do_ok (s1 : Option Addr) (x2 : Bool) (x3 : Int) (x4 : Int) (x5 : List UInt8) {w : World} {R : Ending → World → Prop} (h : book_seat_do s1 x2 x3 x4 x5 w fun v w' => R (.returned v) w') : Calls Tryd.prog fn_book_seat_do ⟨[(Value.pointer s1), (Value.agg ⟨[(Value.bool x2), (Value.int .i64 x3), (Value.int .i64 x4), (strV x5)]⟩)]⟩ w R :=
  calls_of_den callB_ok mixed Tryd.func29 (book_seat_do_eq s1 x2 x3 x4 x5 w _ ▸ h)

/-- (*tidewater/book.Book).Propose -/
def book_Book_Propose (b1 : Option Addr) (ballot2 : Int) (p3 : Int) (p4 : Slc) (asked5 : Slc) (w : World) (K : Value → World → Prop) : Prop :=
  newS w (.cells ⟨[(Value.int .i64 p3), (Slc.v p4)]⟩ 27) fun r6 w7 =>
  newS w7 (.cells ⟨[(Value.int .i64 (0 : Int)), (Slc.v (⟨none, 0, 0⟩ : Slc))]⟩ 27) fun r8 w9 =>
  ∃ n10 : Int, ∃ s11 : Slc, rowAt w9 (⟨r6, 0, none⟩ : Addr) 0 [(Value.int .i64 n10), (Slc.v s11)] ∧
  Calls Tryd.prog fn_plan_Bytes ⟨[(Value.agg ⟨[(Value.int .i64 n10), (Slc.v s11)]⟩)]⟩ w9 fun e12 w13 =>
  ∃ s14 : Slc, ∃ e15 : Value, e12 = .returned (Value.tuple ⟨[(Slc.v s14), e15]⟩) ∧
  ∃ J16 : World → Prop,
  (
    ∃ J17 : (Bool) → World → Prop,
    (
      isI e15 ∧
      BIf (!isNilI e15) (
        J17 (true) w13) (
        J17 ((decide (ballot2 < (0 : Int)))) w13)) ∧ (
    ∀ x18 : Bool, ∀ w19 : World, J17 x18 w19 → ∀ u20 u21 u22 u23 u24 u25 : Value,
      BIf x18 (
        ∃ v26 : Value, World.cell? (World.drew w19) (⟨gl_ErrForm, 0, none⟩ : Addr) = some v26 ∧
        canW (World.drew w19) (⟨r8, 0, none⟩ : Addr) 2 ∧ ∀ w27 : World, w27 = setCells (World.drew w19) (⟨r8, 0, none⟩ : Addr) 0 [(Value.int .i64 (0 : Int)), (Slc.v (⟨none, 0, 0⟩ : Slc))] →
        (∃ v28 : Value, World.cell? w27 (⟨gl_ErrForm, 0, none⟩ : Addr) = some v28 ∧
        v28 = v26) ∧
        ∃ n29 : Int, ∃ s30 : Slc, rowAt w27 (⟨r8, 0, none⟩ : Addr) 0 [(Value.int .i64 n29), (Slc.v s30)] ∧
        K (Value.tuple ⟨[(Value.agg ⟨[(Value.int .i64 n29), (Slc.v s30)]⟩), v26]⟩) w27) (
        ∃ n31 : Int, World.cell? (World.drew w19) (⟨r6, 0, none⟩ : Addr) = some (Value.int .i64 n31) ∧
        Calls Tryd.prog fn_book_Book_latest ⟨[(Value.pointer b1)]⟩ (World.drew w19) fun e32 w33 =>
        ∃ x34 : Int, ∃ x35 : Slc, e32 = .returned (Value.agg ⟨[(Value.int .i64 x34), (Slc.v x35)]⟩) ∧
        (∃ n36 : Int, World.cell? w33 (⟨r6, 0, none⟩ : Addr) = some (Value.int .i64 n36) ∧
        (Value.int .i64 n36) = (Value.int .i64 n31)) ∧
        inR .i64 (x34 + (1 : Int)) ∧
        BIf (!decide (n31 = (x34 + (1 : Int)))) (
          ∃ v37 : Value, World.cell? (World.drew w33) (⟨gl_ErrEpoch, 0, none⟩ : Addr) = some v37 ∧
          canW (World.drew w33) (⟨r8, 0, none⟩ : Addr) 2 ∧ ∀ w38 : World, w38 = setCells (World.drew w33) (⟨r8, 0, none⟩ : Addr) 0 [(Value.int .i64 (0 : Int)), (Slc.v (⟨none, 0, 0⟩ : Slc))] →
          (∃ v39 : Value, World.cell? w38 (⟨gl_ErrEpoch, 0, none⟩ : Addr) = some v39 ∧
          v39 = v37) ∧
          ∃ n40 : Int, ∃ s41 : Slc, rowAt w38 (⟨r8, 0, none⟩ : Addr) 0 [(Value.int .i64 n40), (Slc.v s41)] ∧
          K (Value.tuple ⟨[(Value.agg ⟨[(Value.int .i64 n40), (Slc.v s41)]⟩), v37]⟩) w38) (
          J16 w33)))) ∧ (
  ∀ w42 : World, J16 w42 → ∀ u43 u44 u45 u46 u47 u48 u49 u50 u51 u52 u53 u54 u55 u56 u57 u58 u59 u60 u61 u62 : Value,
    needSome b1 fun a63 =>
    ∃ s64 : Slc, World.cell? (World.drew w42) a63 = some (Slc.v s64) ∧
    ∃ n65 : Int, World.cell? (World.drew w42) (⟨r6, 0, none⟩ : Addr) = some (Value.int .i64 n65) ∧
    ∃ t66 : List UInt8, bytesAt (World.drew w42) s14 t66 ∧
    Calls Tryd.prog fn_vote_New ⟨[(Value.int .i64 ((s64.l : Nat) : Int)), (Value.int .i64 n65), (Value.int .i64 ballot2), (strV t66)]⟩ (World.drew w42) fun e67 w68 =>
    ∃ p69 : Option Addr, ∃ e70 : Value, e67 = .returned (Value.tuple ⟨[(Value.pointer p69), e70]⟩) ∧
    isI e70 ∧
    BIf (!isNilI e70) (
      canW w68 (⟨r8, 0, none⟩ : Addr) 2 ∧ ∀ w71 : World, w71 = setCells w68 (⟨r8, 0, none⟩ : Addr) 0 [(Value.int .i64 (0 : Int)), (Slc.v (⟨none, 0, 0⟩ : Slc))] →
      ∃ n72 : Int, ∃ s73 : Slc, rowAt w71 (⟨r8, 0, none⟩ : Addr) 0 [(Value.int .i64 n72), (Slc.v s73)] ∧
      K (Value.tuple ⟨[(Value.agg ⟨[(Value.int .i64 n72), (Slc.v s73)]⟩), e70]⟩) w71) (
      ∃ (I74 : (Int) → World → Prop) (mu75 : (Int) → World → Nat), I74 ((0 : Int)) w68 ∧ (
      ∀ i76 : Int, ∀ w77 : World, I74 i76 w77 → ∀ u78 u79 u80 u81 u82 u83 u84 u85 u86 u87 u88 u89 u90 u91 u92 u93 u94 u95 u96 u97 u98 u99 u100 u101 u102 u103 u104 u105 u106 u107 u108 u109 u110 u111 u112 u113 u114 u115 u116 u117 u118 : Value,
        BIf (decide (i76 < ((asked5.l : Nat) : Int))) (
          needSome asked5.p fun a119 =>
          0 ≤ i76 ∧ i76 < ((asked5.l : Nat) : Int) ∧
          ∃ n120 : Int, World.cell? w77 (Addr.add a119 ((Int.toNat i76) * 1)) = some (Value.int .i64 n120) ∧
          ∃ J121 : (Bool) → World → Prop,
          (
            Calls Tryd.prog fn_book_Book_has ⟨[(Value.pointer b1), (Value.int .i64 n120)]⟩ w77 fun e122 w123 =>
            ∃ b124 : Bool, e122 = .returned (Value.bool b124) ∧
            BIf b124 (
              needSome b1 fun a125 =>
              ∃ s126 : Slc, World.cell? w123 a125 = some (Slc.v s126) ∧
              needSome s126.p fun a127 =>
              0 ≤ n120 ∧ n120 < ((s126.l : Nat) : Int) ∧
              ∃ p128 : Option Addr, World.cell? w123 (Addr.add a127 ((Int.toNat n120) * 1)) = some (Value.pointer p128) ∧
              needSome p128 fun a129 =>
              ∃ b130 : Bool, World.cell? w123 (a129.add 1) = some (Value.bool b130) ∧
              J121 (b130) w123) (
              J121 (false) w123)) ∧ (
          ∀ x131 : Bool, ∀ w132 : World, J121 x131 w132 → ∀ u133 u134 u135 u136 u137 u138 u139 u140 u141 u142 u143 u144 u145 u146 : Value,
            BIf x131 (
              needSome b1 fun a147 =>
              ∃ s148 : Slc, World.cell? (World.drew w132) a147 = some (Slc.v s148) ∧
              needSome s148.p fun a149 =>
              0 ≤ n120 ∧ n120 < ((s148.l : Nat) : Int) ∧
              ∃ p150 : Option Addr, World.cell? (World.drew w132) (Addr.add a149 ((Int.toNat n120) * 1)) = some (Value.pointer p150) ∧
              ∃ n151 : Int, World.cell? (World.drew w132) (⟨r6, 0, none⟩ : Addr) = some (Value.int .i64 n151) ∧
              (
                Calls Tryd.prog fn_book_seat_do ⟨[(Value.pointer p150), (Value.agg ⟨[(Value.bool false), (Value.int .i64 n151), (Value.int .i64 ballot2), (strV ([] : List UInt8))]⟩)]⟩ (World.drew w132) fun e152 w153 =>
                ∃ x154 : Bool, ∃ x155 : Int, ∃ x156 : List UInt8, ∃ b157 : Bool, e152 = .returned (Value.tuple ⟨[(Value.agg ⟨[(Value.bool x154), (Value.int .i64 x155), (strV x156)]⟩), (Value.bool b157)]⟩) ∧
                newS w153 (.cells ⟨[(Value.bool false), (Value.int .i64 (0 : Int)), (strV ([] : List UInt8))]⟩ 74) fun r158 w159 =>
                canW w159 (⟨r158, 0, none⟩ : Addr) 3 ∧ ∀ w160 : World, w160 = setCells w159 (⟨r158, 0, none⟩ : Addr) 0 [(Value.bool x154), (Value.int .i64 x155), (strV x156)] →
                ∃ b161 : Bool, ∃ n162 : Int, ∃ t163 : List UInt8, rowAt w160 (⟨r158, 0, none⟩ : Addr) 0 [(Value.bool b161), (Value.int .i64 n162), (strV t163)] ∧
                Calls Tryd.prog fn_vote_Proposer_Promise ⟨[(Value.pointer p69), (Value.int .i64 n120), (Value.agg ⟨[(Value.bool b161), (Value.int .i64 n162), (strV t163)]⟩)]⟩ w160 fun e164 w165 =>
                ∃ b166 : Bool, e164 = .returned (Value.bool b166) ∧
                inR .i64 (i76 + (1 : Int)) ∧
                (I74 ((i76 + (1 : Int))) w165 ∧ mu75 ((i76 + (1 : Int))) w165 < mu75 i76 w77)) ∧
              (
                newS (World.drew w132) (.cells ⟨[(Value.bool false), (Value.int .i64 (0 : Int)), (strV ([] : List UInt8))]⟩ 74) fun r167 w168 =>
                (∃ n169 : Int, World.cell? w168 (⟨r6, 0, none⟩ : Addr) = some (Value.int .i64 n169) ∧
                (Value.int .i64 n169) = (Value.int .i64 n151)) ∧
                (∃ p170 : Option Addr, World.cell? w168 (Addr.add a149 ((Int.toNat n120) * 1)) = some (Value.pointer p170) ∧
                (Value.pointer p170) = (Value.pointer p150)) ∧
                (∃ s171 : Slc, World.cell? w168 a147 = some (Slc.v s171) ∧
                (Slc.v s171) = (Slc.v s148)) ∧
                Calls Tryd.prog fn_book_seat_do ⟨[(Value.pointer p150), (Value.agg ⟨[(Value.bool false), (Value.int .i64 n151), (Value.int .i64 ballot2), (strV ([] : List UInt8))]⟩)]⟩ w168 fun e172 w173 =>
                ∃ x174 : Bool, ∃ x175 : Int, ∃ x176 : List UInt8, ∃ b177 : Bool, e172 = .returned (Value.tuple ⟨[(Value.agg ⟨[(Value.bool x174), (Value.int .i64 x175), (strV x176)]⟩), (Value.bool b177)]⟩) ∧
                canW w173 (⟨r167, 0, none⟩ : Addr) 3 ∧ ∀ w178 : World, w178 = setCells w173 (⟨r167, 0, none⟩ : Addr) 0 [(Value.bool x174), (Value.int .i64 x175), (strV x176)] →
                ∃ b179 : Bool, ∃ n180 : Int, ∃ t181 : List UInt8, rowAt w178 (⟨r167, 0, none⟩ : Addr) 0 [(Value.bool b179), (Value.int .i64 n180), (strV t181)] ∧
                Calls Tryd.prog fn_vote_Proposer_Promise ⟨[(Value.pointer p69), (Value.int .i64 n120), (Value.agg ⟨[(Value.bool b179), (Value.int .i64 n180), (strV t181)]⟩)]⟩ w178 fun e182 w183 =>
                ∃ b184 : Bool, e182 = .returned (Value.bool b184) ∧
                inR .i64 (i76 + (1 : Int)) ∧
                (I74 ((i76 + (1 : Int))) w183 ∧ mu75 ((i76 + (1 : Int))) w183 < mu75 i76 w77))) (
              inR .i64 (i76 + (1 : Int)) ∧
              (I74 ((i76 + (1 : Int))) w132 ∧ mu75 ((i76 + (1 : Int))) w132 < mu75 i76 w77)))) (
          Calls Tryd.prog fn_vote_Proposer_Asks ⟨[(Value.pointer p69)]⟩ w77 fun e185 w186 =>
          ∃ t187 : List UInt8, ∃ b188 : Bool, e185 = .returned (Value.tuple ⟨[(strV t187), (Value.bool b188)]⟩) ∧
          ∃ (I189 : (Int) → World → Prop) (mu190 : (Int) → World → Nat), I189 ((0 : Int)) w186 ∧ (
          ∀ i191 : Int, ∀ w192 : World, I189 i191 w192 → ∀ u193 u194 u195 u196 u197 u198 u199 u200 u201 u202 u203 u204 u205 u206 u207 u208 u209 u210 u211 u212 u213 u214 u215 u216 u217 u218 u219 u220 u221 u222 u223 u224 u225 u226 u227 u228 u229 u230 u231 u232 u233 u234 u235 u236 u237 : Value,
            BIf (decide (i191 < ((asked5.l : Nat) : Int))) (
              needSome asked5.p fun a238 =>
              0 ≤ i191 ∧ i191 < ((asked5.l : Nat) : Int) ∧
              ∃ n239 : Int, World.cell? w192 (Addr.add a238 ((Int.toNat i191) * 1)) = some (Value.int .i64 n239) ∧
              ∃ J240 : (Bool) → World → Prop,
              (
                BIf b188 (
                  Calls Tryd.prog fn_book_Book_has ⟨[(Value.pointer b1), (Value.int .i64 n239)]⟩ w192 fun e241 w242 =>
                  ∃ b243 : Bool, e241 = .returned (Value.bool b243) ∧
                  BIf b243 (
                    needSome b1 fun a244 =>
                    ∃ s245 : Slc, World.cell? w242 a244 = some (Slc.v s245) ∧
                    needSome s245.p fun a246 =>
                    0 ≤ n239 ∧ n239 < ((s245.l : Nat) : Int) ∧
                    ∃ p247 : Option Addr, World.cell? w242 (Addr.add a246 ((Int.toNat n239) * 1)) = some (Value.pointer p247) ∧
                    needSome p247 fun a248 =>
                    ∃ b249 : Bool, World.cell? w242 (a248.add 1) = some (Value.bool b249) ∧
                    J240 (b249) w242) (
                    J240 (false) w242)) (
                  J240 (false) w192)) ∧ (
              ∀ x250 : Bool, ∀ w251 : World, J240 x250 w251 → ∀ u252 u253 u254 u255 u256 u257 u258 u259 u260 u261 u262 u263 u264 u265 u266 u267 u268 : Value,
                BIf x250 (
                  needSome b1 fun a269 =>
                  ∃ s270 : Slc, World.cell? (World.drew w251) a269 = some (Slc.v s270) ∧
                  needSome s270.p fun a271 =>
                  0 ≤ n239 ∧ n239 < ((s270.l : Nat) : Int) ∧
                  ∃ p272 : Option Addr, World.cell? (World.drew w251) (Addr.add a271 ((Int.toNat n239) * 1)) = some (Value.pointer p272) ∧
                  ∃ n273 : Int, World.cell? (World.drew w251) (⟨r6, 0, none⟩ : Addr) = some (Value.int .i64 n273) ∧
                  (
                    Calls Tryd.prog fn_book_seat_do ⟨[(Value.pointer p272), (Value.agg ⟨[(Value.bool true), (Value.int .i64 n273), (Value.int .i64 ballot2), (strV t187)]⟩)]⟩ (World.drew w251) fun e274 w275 =>
                    ∃ x276 : Bool, ∃ x277 : Int, ∃ x278 : List UInt8, ∃ b279 : Bool, e274 = .returned (Value.tuple ⟨[(Value.agg ⟨[(Value.bool x276), (Value.int .i64 x277), (strV x278)]⟩), (Value.bool b279)]⟩) ∧
                    newS w275 (.cells ⟨[(Value.bool false), (Value.int .i64 (0 : Int)), (strV ([] : List UInt8))]⟩ 74) fun r280 w281 =>
                    canW w281 (⟨r280, 0, none⟩ : Addr) 3 ∧ ∀ w282 : World, w282 = setCells w281 (⟨r280, 0, none⟩ : Addr) 0 [(Value.bool x276), (Value.int .i64 x277), (strV x278)] →
                    Calls Tryd.prog fn_vote_Proposer_Accepted ⟨[(Value.pointer p69), (Value.int .i64 n239), (Value.bool b279)]⟩ w282 fun e283 w284 =>
                    ∃ b285 : Bool, e283 = .returned (Value.bool b285) ∧
                    inR .i64 (i191 + (1 : Int)) ∧
                    (I189 ((i191 + (1 : Int))) w284 ∧ mu190 ((i191 + (1 : Int))) w284 < mu190 i191 w192)) ∧
                  (
                    newS (World.drew w251) (.cells ⟨[(Value.bool false), (Value.int .i64 (0 : Int)), (strV ([] : List UInt8))]⟩ 74) fun r286 w287 =>
                    (∃ n288 : Int, World.cell? w287 (⟨r6, 0, none⟩ : Addr) = some (Value.int .i64 n288) ∧
                    (Value.int .i64 n288) = (Value.int .i64 n273)) ∧
                    (∃ p289 : Option Addr, World.cell? w287 (Addr.add a271 ((Int.toNat n239) * 1)) = some (Value.pointer p289) ∧
                    (Value.pointer p289) = (Value.pointer p272)) ∧
                    (∃ s290 : Slc, World.cell? w287 a269 = some (Slc.v s290) ∧
                    (Slc.v s290) = (Slc.v s270)) ∧
                    Calls Tryd.prog fn_book_seat_do ⟨[(Value.pointer p272), (Value.agg ⟨[(Value.bool true), (Value.int .i64 n273), (Value.int .i64 ballot2), (strV t187)]⟩)]⟩ w287 fun e291 w292 =>
                    ∃ x293 : Bool, ∃ x294 : Int, ∃ x295 : List UInt8, ∃ b296 : Bool, e291 = .returned (Value.tuple ⟨[(Value.agg ⟨[(Value.bool x293), (Value.int .i64 x294), (strV x295)]⟩), (Value.bool b296)]⟩) ∧
                    canW w292 (⟨r286, 0, none⟩ : Addr) 3 ∧ ∀ w297 : World, w297 = setCells w292 (⟨r286, 0, none⟩ : Addr) 0 [(Value.bool x293), (Value.int .i64 x294), (strV x295)] →
                    Calls Tryd.prog fn_vote_Proposer_Accepted ⟨[(Value.pointer p69), (Value.int .i64 n239), (Value.bool b296)]⟩ w297 fun e298 w299 =>
                    ∃ b300 : Bool, e298 = .returned (Value.bool b300) ∧
                    inR .i64 (i191 + (1 : Int)) ∧
                    (I189 ((i191 + (1 : Int))) w299 ∧ mu190 ((i191 + (1 : Int))) w299 < mu190 i191 w192))) (
                  inR .i64 (i191 + (1 : Int)) ∧
                  (I189 ((i191 + (1 : Int))) w251 ∧ mu190 ((i191 + (1 : Int))) w251 < mu190 i191 w192)))) (
              Calls Tryd.prog fn_vote_Proposer_Decided ⟨[(Value.pointer p69)]⟩ w192 fun e301 w302 =>
              ∃ t303 : List UInt8, ∃ b304 : Bool, e301 = .returned (Value.tuple ⟨[(strV t303), (Value.bool b304)]⟩) ∧
              BIf (!b304) (
                ∃ v305 : Value, World.cell? (World.drew w302) (⟨gl_ErrDown, 0, none⟩ : Addr) = some v305 ∧
                canW (World.drew w302) (⟨r8, 0, none⟩ : Addr) 2 ∧ ∀ w306 : World, w306 = setCells (World.drew w302) (⟨r8, 0, none⟩ : Addr) 0 [(Value.int .i64 (0 : Int)), (Slc.v (⟨none, 0, 0⟩ : Slc))] →
                (∃ v307 : Value, World.cell? w306 (⟨gl_ErrDown, 0, none⟩ : Addr) = some v307 ∧
                v307 = v305) ∧
                ∃ n308 : Int, ∃ s309 : Slc, rowAt w306 (⟨r8, 0, none⟩ : Addr) 0 [(Value.int .i64 n308), (Slc.v s309)] ∧
                K (Value.tuple ⟨[(Value.agg ⟨[(Value.int .i64 n308), (Slc.v s309)]⟩), v305]⟩) w306) (
                bytesK Tryd.prog 5 t303 w302 fun s310 w311 =>
                Calls Tryd.prog fn_plan_Read ⟨[(Slc.v s310)]⟩ w311 fun e312 w313 =>
                ∃ x314 : Int, ∃ x315 : Slc, ∃ e316 : Value, e312 = .returned (Value.tuple ⟨[(Value.agg ⟨[(Value.int .i64 x314), (Slc.v x315)]⟩), e316]⟩) ∧
                newS w313 (.cells ⟨[(Value.int .i64 (0 : Int)), (Slc.v (⟨none, 0, 0⟩ : Slc))]⟩ 27) fun r317 w318 =>
                canW w318 (⟨r317, 0, none⟩ : Addr) 2 ∧ ∀ w319 : World, w319 = setCells w318 (⟨r317, 0, none⟩ : Addr) 0 [(Value.int .i64 x314), (Slc.v x315)] →
                isI e316 ∧
                BIf (!isNilI e316) (
                  canW w319 (⟨r8, 0, none⟩ : Addr) 2 ∧ ∀ w320 : World, w320 = setCells w319 (⟨r8, 0, none⟩ : Addr) 0 [(Value.int .i64 (0 : Int)), (Slc.v (⟨none, 0, 0⟩ : Slc))] →
                  ∃ n321 : Int, ∃ s322 : Slc, rowAt w320 (⟨r8, 0, none⟩ : Addr) 0 [(Value.int .i64 n321), (Slc.v s322)] ∧
                  K (Value.tuple ⟨[(Value.agg ⟨[(Value.int .i64 n321), (Slc.v s322)]⟩), e316]⟩) w320) (
                  needSome b1 fun a323 =>
                  ∃ s324 : Slc, World.cell? (World.drew w319) (a323.add 1) = some (Slc.v s324) ∧
                  ∃ n325 : Int, ∃ s326 : Slc, rowAt (World.drew w319) (⟨r317, 0, none⟩ : Addr) 0 [(Value.int .i64 n325), (Slc.v s326)] ∧
                  newS (World.drew w319) (.cells ⟨[(Value.int .i64 n325), (Slc.v s326)]⟩ 27) fun r327 w328 =>
                  (∃ s329 : Slc, World.cell? w328 (a323.add 1) = some (Slc.v s329) ∧
                  (Slc.v s329) = (Slc.v s324)) ∧
                  appendS 2 27 [(Value.int .i64 (0 : Int)), (Slc.v (⟨none, 0, 0⟩ : Slc))] w328 s324 (.slc (⟨(some (⟨r327, 0, none⟩ : Addr)), 1, 1⟩ : Slc)) fun s330 w331 =>
                  needSome b1 fun a332 =>
                  canW w331 (a332.add 1) 1 ∧ ∀ w333 : World, w333 = World.setCell w331 (a332.add 1) (Slc.v s330) →
                  ∃ n334 : Int, ∃ s335 : Slc, rowAt w333 (⟨r317, 0, none⟩ : Addr) 0 [(Value.int .i64 n334), (Slc.v s335)] ∧
                  Calls Tryd.prog fn_plan_Copy ⟨[(Value.agg ⟨[(Value.int .i64 n334), (Slc.v s335)]⟩)]⟩ w333 fun e336 w337 =>
                  ∃ x338 : Int, ∃ x339 : Slc, e336 = .returned (Value.agg ⟨[(Value.int .i64 x338), (Slc.v x339)]⟩) ∧
                  canW w337 (⟨r8, 0, none⟩ : Addr) 2 ∧ ∀ w340 : World, w340 = setCells w337 (⟨r8, 0, none⟩ : Addr) 0 [(Value.int .i64 x338), (Slc.v x339)] →
                  ∃ n341 : Int, ∃ s342 : Slc, rowAt w340 (⟨r8, 0, none⟩ : Addr) 0 [(Value.int .i64 n341), (Slc.v s342)] ∧
                  K (Value.tuple ⟨[(Value.agg ⟨[(Value.int .i64 n341), (Slc.v s342)]⟩), Value.nilIface]⟩) w340))))))))

theorem book_Book_Propose_eq (b1 : Option Addr) (ballot2 : Int) (p3 : Int) (p4 : Slc) (asked5 : Slc) (w : World) (K : Value → World → Prop) : book_Book_Propose b1 ballot2 p3 p4 asked5 w K = denF Tryd.prog callB Tryd.f9 (.two .none (.two .none (.cut [] [9, 31, 32, 33, 34, 35, 36, 37, 38, 39, 40, 41, 42, 43, 44, 45, 46, 47, 48, 49] (.one (.cut [(31, Sh.bool)] [32, 33, 34, 35, 36, 37] .none .none)) (.two .none (.two .none (.two (.two .none (.one (.loop [(70, (Sh.int .i64))] [14, 15, 16, 71, 72, 73, 74, 75, 76, 77, 78, 79, 80, 81, 82, 83, 84, 85, 86, 87, 88, 89, 90, 91, 92, 93, 94, 95, 96, 97, 98, 99, 100, 101, 102, 103, 104, 105, 106, 107, 108] (.two .none (.two .none (.two (.one (.two .none (.cut [(88, Sh.bool)] [74, 75, 76, 77, 78, 79, 80, 81, 82, 83, 84, 85, 86, 87] .none .none))) .none)))))) (.two .none (.two (.two .none (.one (.loop [(116, (Sh.int .i64))] [20, 21, 22, 117, 118, 119, 120, 121, 122, 123, 124, 125, 126, 127, 128, 129, 130, 131, 132, 133, 134, 135, 136, 137, 138, 139, 140, 141, 142, 143, 144, 145, 146, 147, 148, 149, 150, 151, 152, 153, 154, 155, 156, 157, 158] (.two .none (.two .none (.two (.one (.two .none (.cut [(137, Sh.bool)] [120, 121, 122, 123, 124, 125, 126, 127, 128, 129, 130, 131, 132, 133, 134, 135, 136] .none .none))) .none)))))) .none)))))))) [(Value.pointer b1), (Value.int .i64 ballot2), (Value.agg ⟨[(Value.int .i64 p3), (Slc.v p4)]⟩), (Slc.v asked5)] w K := by kernel_rfl
theorem book_Book_Propose_ok (b1 : Option Addr) (ballot2 : Int) (p3 : Int) (p4 : Slc) (asked5 : Slc) {w : World} {R : Ending → World → Prop} (h : book_Book_Propose b1 ballot2 p3 p4 asked5 w fun v w' => R (.returned v) w') : Calls Tryd.prog fn_book_Book_Propose ⟨[(Value.pointer b1), (Value.int .i64 ballot2), (Value.agg ⟨[(Value.int .i64 p3), (Slc.v p4)]⟩), (Slc.v asked5)]⟩ w R :=
  calls_of_den callB_ok mixed Tryd.func9 (book_Book_Propose_eq b1 ballot2 p3 p4 asked5 w _ ▸ h)

/-- (*tidewater/book.Book).Latest -/
def book_Book_Latest (b1 : Option Addr) (w : World) (K : Value → World → Prop) : Prop :=
  newS w (.cells ⟨[(Value.int .i64 (0 : Int)), (Slc.v (⟨none, 0, 0⟩ : Slc))]⟩ 27) fun r2 w3 =>
  Calls Tryd.prog fn_book_Book_latest ⟨[(Value.pointer b1)]⟩ w3 fun e4 w5 =>
  ∃ x6 : Int, ∃ x7 : Slc, e4 = .returned (Value.agg ⟨[(Value.int .i64 x6), (Slc.v x7)]⟩) ∧
  Calls Tryd.prog fn_plan_Copy ⟨[(Value.agg ⟨[(Value.int .i64 x6), (Slc.v x7)]⟩)]⟩ w5 fun e8 w9 =>
  ∃ x10 : Int, ∃ x11 : Slc, e8 = .returned (Value.agg ⟨[(Value.int .i64 x10), (Slc.v x11)]⟩) ∧
  canW w9 (⟨r2, 0, none⟩ : Addr) 2 ∧ ∀ w12 : World, w12 = setCells w9 (⟨r2, 0, none⟩ : Addr) 0 [(Value.int .i64 x10), (Slc.v x11)] →
  ∃ n13 : Int, ∃ s14 : Slc, rowAt w12 (⟨r2, 0, none⟩ : Addr) 0 [(Value.int .i64 n13), (Slc.v s14)] ∧
  K (Value.agg ⟨[(Value.int .i64 n13), (Slc.v s14)]⟩) w12

theorem book_Book_Latest_eq (b1 : Option Addr) (w : World) (K : Value → World → Prop) : book_Book_Latest b1 w K = denF Tryd.prog callB Tryd.f13 .none [(Value.pointer b1)] w K := by kernel_rfl
theorem book_Book_Latest_ok (b1 : Option Addr) {w : World} {R : Ending → World → Prop} (h : book_Book_Latest b1 w fun v w' => R (.returned v) w') : Calls Tryd.prog fn_book_Book_Latest ⟨[(Value.pointer b1)]⟩ w R :=
  calls_of_den callB_ok mixed Tryd.func13 (book_Book_Latest_eq b1 w _ ▸ h)

/-- (*tidewater/book.Book).At -/
def book_Book_At (b1 : Option Addr) (epoch2 : Int) (w : World) (K : Value → World → Prop) : Prop :=
  newS w (.cells ⟨[(Value.int .i64 (0 : Int)), (Slc.v (⟨none, 0, 0⟩ : Slc))]⟩ 27) fun r3 w4 =>
  needSome b1 fun a5 =>
  ∃ s6 : Slc, World.cell? w4 (a5.add 1) = some (Slc.v s6) ∧
  ∃ (I7 : (Int) → World → Prop) (mu8 : (Int) → World → Nat), I7 ((0 : Int)) w4 ∧ (
  ∀ i9 : Int, ∀ w10 : World, I7 i9 w10 → ∀ u11 u12 u13 u14 u15 u16 u17 u18 u19 u20 u21 u22 : Value,
    BIf (decide (i9 < ((s6.l : Nat) : Int))) (
      needSome s6.p fun a23 =>
      0 ≤ i9 ∧ i9 < ((s6.l : Nat) : Int) ∧
      ∃ n24 : Int, ∃ s25 : Slc, rowAt w10 (Addr.add a23 ((Int.toNat i9) * 2)) 0 [(Value.int .i64 n24), (Slc.v s25)] ∧
      newS w10 (.cells ⟨[(Value.int .i64 (0 : Int)), (Slc.v (⟨none, 0, 0⟩ : Slc))]⟩ 27) fun r26 w27 =>
      canW w27 (⟨r26, 0, none⟩ : Addr) 2 ∧ ∀ w28 : World, w28 = setCells w27 (⟨r26, 0, none⟩ : Addr) 0 [(Value.int .i64 n24), (Slc.v s25)] →
      ∃ n29 : Int, World.cell? w28 (⟨r26, 0, none⟩ : Addr) = some (Value.int .i64 n29) ∧
      BIf (decide (n29 = epoch2)) (
        ∃ n30 : Int, ∃ s31 : Slc, rowAt w28 (⟨r26, 0, none⟩ : Addr) 0 [(Value.int .i64 n30), (Slc.v s31)] ∧
        Calls Tryd.prog fn_plan_Copy ⟨[(Value.agg ⟨[(Value.int .i64 n30), (Slc.v s31)]⟩)]⟩ w28 fun e32 w33 =>
        ∃ x34 : Int, ∃ x35 : Slc, e32 = .returned (Value.agg ⟨[(Value.int .i64 x34), (Slc.v x35)]⟩) ∧
        canW w33 (⟨r3, 0, none⟩ : Addr) 2 ∧ ∀ w36 : World, w36 = setCells w33 (⟨r3, 0, none⟩ : Addr) 0 [(Value.int .i64 x34), (Slc.v x35)] →
        ∃ n37 : Int, ∃ s38 : Slc, rowAt w36 (⟨r3, 0, none⟩ : Addr) 0 [(Value.int .i64 n37), (Slc.v s38)] ∧
        K (Value.tuple ⟨[(Value.agg ⟨[(Value.int .i64 n37), (Slc.v s38)]⟩), Value.nilIface]⟩) w36) (
        inR .i64 (i9 + (1 : Int)) ∧
        (I7 ((i9 + (1 : Int))) w28 ∧ mu8 ((i9 + (1 : Int))) w28 < mu8 i9 w10))) (
      ∃ v39 : Value, World.cell? (World.drew w10) (⟨gl_ErrEpoch, 0, none⟩ : Addr) = some v39 ∧
      canW (World.drew w10) (⟨r3, 0, none⟩ : Addr) 2 ∧ ∀ w40 : World, w40 = setCells (World.drew w10) (⟨r3, 0, none⟩ : Addr) 0 [(Value.int .i64 (0 : Int)), (Slc.v (⟨none, 0, 0⟩ : Slc))] →
      (∃ v41 : Value, World.cell? w40 (⟨gl_ErrEpoch, 0, none⟩ : Addr) = some v41 ∧
      v41 = v39) ∧
      ∃ n42 : Int, ∃ s43 : Slc, rowAt w40 (⟨r3, 0, none⟩ : Addr) 0 [(Value.int .i64 n42), (Slc.v s43)] ∧
      K (Value.tuple ⟨[(Value.agg ⟨[(Value.int .i64 n42), (Slc.v s43)]⟩), v39]⟩) w40))

theorem book_Book_At_eq (b1 : Option Addr) (epoch2 : Int) (w : World) (K : Value → World → Prop) : book_Book_At b1 epoch2 w K = denF Tryd.prog callB Tryd.f17 (.two .none (.two (.two .none (.one (.loop [(13, (Sh.int .i64))] [5, 7, 14, 15, 16, 17, 18, 19, 20, 21, 22, 23] .none))) .none)) [(Value.pointer b1), (Value.int .i64 epoch2)] w K := by kernel_rfl
theorem book_Book_At_ok (b1 : Option Addr) (epoch2 : Int) {w : World} {R : Ending → World → Prop} (h : book_Book_At b1 epoch2 w fun v w' => R (.returned v) w') : Calls Tryd.prog fn_book_Book_At ⟨[(Value.pointer b1), (Value.int .i64 epoch2)]⟩ w R :=
  calls_of_den callB_ok mixed Tryd.func17 (book_Book_At_eq b1 epoch2 w _ ▸ h)

/-- (*tidewater/book.Book).Known -/
def book_Book_Known (b1 : Option Addr) (w : World) (K : Value → World → Prop) : Prop :=
  needSome b1 fun a2 =>
  ∃ s3 : Slc, World.cell? w (a2.add 1) = some (Slc.v s3) ∧
  K (Value.int .i64 ((s3.l : Nat) : Int)) w

theorem book_Book_Known_eq (b1 : Option Addr) (w : World) (K : Value → World → Prop) : book_Book_Known b1 w K = denF Tryd.prog callB Tryd.f11 .none [(Value.pointer b1)] w K := by kernel_rfl
theorem book_Book_Known_ok (b1 : Option Addr) {w : World} {R : Ending → World → Prop} (h : book_Book_Known b1 w fun v w' => R (.returned v) w') : Calls Tryd.prog fn_book_Book_Known ⟨[(Value.pointer b1)]⟩ w R :=
  calls_of_den callB_ok mixed Tryd.func11 (book_Book_Known_eq b1 w _ ▸ h)

end Go.D
