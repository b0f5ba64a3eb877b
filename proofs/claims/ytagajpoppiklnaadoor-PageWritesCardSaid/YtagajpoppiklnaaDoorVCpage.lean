/-
  WHAT IS PROVED: verification conditions of functions of this program, each with its soundness. No further conditions.
-/
import Derived.Test.YtagajpoppiklnaaDoorBase
set_option linter.unusedSimpArgs false
set_option maxRecDepth 100000
set_option linter.unusedVariables false
namespace Go.D
open Go Go.Proofs
/-- tidewater/page.falls -/
def page_falls (list1 : Slc) (w : World) (K : Value → World → Prop) : Prop :=
  ∃ (I2 : (Int) → (Int) → World → Prop) (mu3 : (Int) → (Int) → World → Nat), I2 ((4096 : Int)) ((0 : Int)) w ∧ (
  ∀ last4 : Int, ∀ i5 : Int, ∀ w6 : World, I2 last4 i5 w6 → ∀ u7 u8 u9 u10 u11 u12 u13 u14 u15 u16 u17 u18 u19 u20 : Value,
    BIf (decide (i5 < ((list1.l : Nat) : Int))) (
      needSome list1.p fun a21 =>
      0 ≤ i5 ∧ i5 < ((list1.l : Nat) : Int) ∧
      ∃ n22 : Int, World.cell? w6 (Addr.add a21 ((Int.toNat i5) * 1)) = some (Value.int .i64 n22) ∧
      BIf (decide (n22 < (0 : Int))) (
        K (Value.bool false) w6) (
        BIf (decide (last4 ≤ n22)) (
          K (Value.bool false) w6) (
          inR .i64 (i5 + (1 : Int)) ∧
          (I2 (n22) ((i5 + (1 : Int))) w6 ∧ mu3 (n22) ((i5 + (1 : Int))) w6 < mu3 last4 i5 w6)))) (
      K (Value.bool (decide (((list1.l : Nat) : Int) ≤ (4 : Int)))) w6))

theorem page_falls_eq (list1 : Slc) (w : World) (K : Value → World → Prop) : page_falls list1 w K = denF Tryd.prog callB Tryd.f26 (.two .none (.two .none (.two (.two .none (.one (.loop [(3, (Sh.int .i64)), (8, (Sh.int .i64))] [2, 5, 9, 10, 11, 12, 13, 14, 15, 16, 17, 18, 19, 20] .none))) .none))) [(Slc.v list1)] w K := by kernel_rfl
theorem page_falls_ok (list1 : Slc) {w : World} {R : Ending → World → Prop} (h : page_falls list1 w fun v w' => R (.returned v) w') : Calls Tryd.prog fn_page_falls ⟨[(Slc.v list1)]⟩ w R :=
  calls_of_den callB_ok mixed Tryd.func26 (page_falls_eq list1 w _ ▸ h)

/-- tidewater/page.Read$1 -/
def page_Read_1 (x1 : Int) (l2 : Slc) (w : World) (K : Value → World → Prop) : Prop :=
  Calls Tryd.prog fn_page_falls ⟨[(Slc.v l2)]⟩ w fun e3 w4 =>
  ∃ b5 : Bool, e3 = .returned (Value.bool b5) ∧
  K (Value.bool b5) w4

theorem page_Read_1_eq (x1 : Int) (l2 : Slc) (w : World) (K : Value → World → Prop) : page_Read_1 x1 l2 w K = denF Tryd.prog callB Tryd.f25 .none [(Value.int .i64 x1), (Slc.v l2)] w K := by kernel_rfl
theorem page_Read_1_ok (x1 : Int) (l2 : Slc) {w : World} {R : Ending → World → Prop} (h : page_Read_1 x1 l2 w fun v w' => R (.returned v) w') : Calls Tryd.prog fn_page_Read_1 ⟨[(Value.int .i64 x1), (Slc.v l2)]⟩ w R :=
  calls_of_den callB_ok mixed Tryd.func25 (page_Read_1_eq x1 l2 w _ ▸ h)

/-- slices.EqualFunc[[]int,[][]int,int,[]int] -/
def slices_EqualFunc_Sint_page_Read_1 (s1 : Slc) (s2 : Slc) (w : World) (K : Value → World → Prop) : Prop :=
  BIf (!decide (((s1.l : Nat) : Int) = ((s2.l : Nat) : Int))) (
    K (Value.bool false) w) (
    ∃ (I3 : (Int) → World → Prop) (mu4 : (Int) → World → Nat), I3 ((0 : Int)) w ∧ (
    ∀ i5 : Int, ∀ w6 : World, I3 i5 w6 → ∀ u7 u8 u9 u10 u11 u12 u13 u14 u15 u16 u17 u18 u19 u20 u21 u22 u23 u24 : Value,
      BIf (decide (i5 < ((s1.l : Nat) : Int))) (
        needSome s1.p fun a25 =>
        0 ≤ i5 ∧ i5 < ((s1.l : Nat) : Int) ∧
        ∃ n26 : Int, World.cell? w6 (Addr.add a25 ((Int.toNat i5) * 1)) = some (Value.int .i64 n26) ∧
        needSome s2.p fun a27 =>
        0 ≤ i5 ∧ i5 < ((s2.l : Nat) : Int) ∧
        ∃ s28 : Slc, World.cell? w6 (Addr.add a27 ((Int.toNat i5) * 1)) = some (Slc.v s28) ∧
        Calls Tryd.prog fn_page_Read_1 ⟨[(Value.int .i64 n26), (Slc.v s28)]⟩ w6 fun e29 w30 =>
        ∃ b31 : Bool, e29 = .returned (Value.bool b31) ∧
        BIf (!b31) (
          K (Value.bool false) w30) (
          inR .i64 (i5 + (1 : Int)) ∧
          (I3 ((i5 + (1 : Int))) w30 ∧ mu4 ((i5 + (1 : Int))) w30 < mu4 i5 w6))) (
        K (Value.bool true) w6)))

theorem slices_EqualFunc_Sint_page_Read_1_eq (s1 : Slc) (s2 : Slc) (w : World) (K : Value → World → Prop) : slices_EqualFunc_Sint_page_Read_1 s1 s2 w K = denF Tryd.prog callB Tryd.f24 (.two .none (.two .none (.two (.two .none (.one (.loop [(17, (Sh.int .i64))] [6, 7, 8, 9, 18, 19, 20, 21, 22, 23, 24, 25, 26, 27, 28, 29, 30, 31] .none))) .none))) [(Slc.v s1), (Slc.v s2), (Value.func (.func 25) ⟨[]⟩ ⟨[]⟩)] w K := by kernel_rfl
theorem slices_EqualFunc_Sint_page_Read_1_ok (s1 : Slc) (s2 : Slc) {w : World} {R : Ending → World → Prop} (h : slices_EqualFunc_Sint_page_Read_1 s1 s2 w fun v w' => R (.returned v) w') : Calls Tryd.prog fn_slices_EqualFunc_Sint ⟨[(Slc.v s1), (Slc.v s2), (Value.func (.func 25) ⟨[]⟩ ⟨[]⟩)]⟩ w R :=
  calls_of_den callB_ok mixed Tryd.func24 (slices_EqualFunc_Sint_page_Read_1_eq s1 s2 w _ ▸ h)

/-- tidewater/page.Bytes$1 -/
def page_Bytes_1 (s1 : Int) (x2 : Int) (x3 : Slc) (w : World) (K : Value → World → Prop) : Prop :=
  newS w (.cells ⟨[(Value.int .i64 x2), (Slc.v x3)]⟩ 46) fun r4 w5 =>
  ∃ n6 : Int, World.cell? w5 (⟨r4, 0, none⟩ : Addr) = some (Value.int .i64 n6) ∧
  BIf (decide (s1 = n6)) (
    ∃ s7 : Slc, World.cell? w5 (⟨r4, 1, none⟩ : Addr) = some (Slc.v s7) ∧
    Calls Tryd.prog fn_page_falls ⟨[(Slc.v s7)]⟩ w5 fun e8 w9 =>
    ∃ b10 : Bool, e8 = .returned (Value.bool b10) ∧
    K (Value.bool b10) w9) (
    K (Value.bool false) w5)

theorem page_Bytes_1_eq (s1 : Int) (x2 : Int) (x3 : Slc) (w : World) (K : Value → World → Prop) : page_Bytes_1 s1 x2 x3 w K = denF Tryd.prog callB Tryd.f29 .none [(Value.int .i64 s1), (Value.agg ⟨[(Value.int .i64 x2), (Slc.v x3)]⟩)] w K := by kernel_rfl
theorem page_Bytes_1_ok (s1 : Int) (x2 : Int) (x3 : Slc) {w : World} {R : Ending → World → Prop} (h : page_Bytes_1 s1 x2 x3 w fun v w' => R (.returned v) w') : Calls Tryd.prog fn_page_Bytes_1 ⟨[(Value.int .i64 s1), (Value.agg ⟨[(Value.int .i64 x2), (Slc.v x3)]⟩)]⟩ w R :=
  calls_of_den callB_ok mixed Tryd.func29 (page_Bytes_1_eq s1 x2 x3 w _ ▸ h)

/-- slices.EqualFunc[[]int,[]tidewater/api.Back,int,tidewater/api.Back] -/
def slices_EqualFunc_Back_page_Bytes_1 (s1 : Slc) (s2 : Slc) (w : World) (K : Value → World → Prop) : Prop :=
  BIf (!decide (((s1.l : Nat) : Int) = ((s2.l : Nat) : Int))) (
    K (Value.bool false) w) (
    ∃ (I3 : (Int) → World → Prop) (mu4 : (Int) → World → Nat), I3 ((0 : Int)) w ∧ (
    ∀ i5 : Int, ∀ w6 : World, I3 i5 w6 → ∀ u7 u8 u9 u10 u11 u12 u13 u14 u15 u16 u17 u18 u19 u20 u21 u22 u23 u24 : Value,
      BIf (decide (i5 < ((s1.l : Nat) : Int))) (
        needSome s1.p fun a25 =>
        0 ≤ i5 ∧ i5 < ((s1.l : Nat) : Int) ∧
        ∃ n26 : Int, World.cell? w6 (Addr.add a25 ((Int.toNat i5) * 1)) = some (Value.int .i64 n26) ∧
        needSome s2.p fun a27 =>
        0 ≤ i5 ∧ i5 < ((s2.l : Nat) : Int) ∧
        ∃ n28 : Int, ∃ s29 : Slc, rowAt w6 (Addr.add a27 ((Int.toNat i5) * 2)) 0 [(Value.int .i64 n28), (Slc.v s29)] ∧
        newS w6 (.cells ⟨[(Value.int .i64 (0 : Int)), (Slc.v (⟨none, 0, 0⟩ : Slc))]⟩ 46) fun r30 w31 =>
        canW w31 (⟨r30, 0, none⟩ : Addr) 2 ∧ ∀ w32 : World, w32 = setCells w31 (⟨r30, 0, none⟩ : Addr) 0 [(Value.int .i64 n28), (Slc.v s29)] →
        ∃ n33 : Int, ∃ s34 : Slc, rowAt w32 (⟨r30, 0, none⟩ : Addr) 0 [(Value.int .i64 n33), (Slc.v s34)] ∧
        Calls Tryd.prog fn_page_Bytes_1 ⟨[(Value.int .i64 n26), (Value.agg ⟨[(Value.int .i64 n33), (Slc.v s34)]⟩)]⟩ w32 fun e35 w36 =>
        ∃ b37 : Bool, e35 = .returned (Value.bool b37) ∧
        BIf (!b37) (
          K (Value.bool false) w36) (
          inR .i64 (i5 + (1 : Int)) ∧
          (I3 ((i5 + (1 : Int))) w36 ∧ mu4 ((i5 + (1 : Int))) w36 < mu4 i5 w6))) (
        K (Value.bool true) w6)))

theorem slices_EqualFunc_Back_page_Bytes_1_eq (s1 : Slc) (s2 : Slc) (w : World) (K : Value → World → Prop) : slices_EqualFunc_Back_page_Bytes_1 s1 s2 w K = denF Tryd.prog callB Tryd.f28 (.two .none (.two .none (.two (.two .none (.one (.loop [(17, (Sh.int .i64))] [6, 7, 8, 9, 18, 19, 20, 21, 22, 23, 24, 25, 26, 27, 28, 29, 30, 31] .none))) .none))) [(Slc.v s1), (Slc.v s2), (Value.func (.func 29) ⟨[]⟩ ⟨[]⟩)] w K := by kernel_rfl
theorem slices_EqualFunc_Back_page_Bytes_1_ok (s1 : Slc) (s2 : Slc) {w : World} {R : Ending → World → Prop} (h : slices_EqualFunc_Back_page_Bytes_1 s1 s2 w fun v w' => R (.returned v) w') : Calls Tryd.prog fn_slices_EqualFunc_Back ⟨[(Slc.v s1), (Slc.v s2), (Value.func (.func 29) ⟨[]⟩ ⟨[]⟩)]⟩ w R :=
  calls_of_den callB_ok mixed Tryd.func28 (slices_EqualFunc_Back_page_Bytes_1_eq s1 s2 w _ ▸ h)

/-- tidewater/page.Bytes -/
def page_Bytes (e1 : Int) (e2 : Int) (e3 : Int) (e4 : Int) (e5 : Int) (e6 : Int) (e7 : Slc) (e8 : List UInt8) (e9 : Int) (e10 : Int) (e11 : Int) (e12 : Slc) (backs13 : Slc) (w : World) (K : Value → World → Prop) : Prop :=
  newS w (.cells ⟨[(Value.int .i64 e1), (Value.int .i64 e2), (Value.int .i64 e3), (Value.int .i64 e4), (Value.int .i64 e5), (Value.int .i64 e6), (Slc.v e7), (strV e8), (Value.int .i64 e9), (Value.int .i64 e10), (Value.int .i64 e11), (Slc.v e12)]⟩ 25) fun r14 w15 =>
  ∃ n16 : Int, ∃ n17 : Int, ∃ n18 : Int, ∃ n19 : Int, ∃ n20 : Int, ∃ n21 : Int, ∃ s22 : Slc, ∃ t23 : List UInt8, ∃ n24 : Int, ∃ n25 : Int, ∃ n26 : Int, ∃ s27 : Slc, rowAt w15 (⟨r14, 0, none⟩ : Addr) 0 [(Value.int .i64 n16), (Value.int .i64 n17), (Value.int .i64 n18), (Value.int .i64 n19), (Value.int .i64 n20), (Value.int .i64 n21), (Slc.v s22), (strV t23), (Value.int .i64 n24), (Value.int .i64 n25), (Value.int .i64 n26), (Slc.v s27)] ∧
  Calls Tryd.prog fn_entry_Bytes ⟨[(Value.agg ⟨[(Value.int .i64 n16), (Value.int .i64 n17), (Value.int .i64 n18), (Value.int .i64 n19), (Value.int .i64 n20), (Value.int .i64 n21), (Slc.v s22), (strV t23), (Value.int .i64 n24), (Value.int .i64 n25), (Value.int .i64 n26), (Slc.v s27)]⟩)]⟩ w15 fun e28 w29 =>
  ∃ s30 : Slc, ∃ e31 : Value, e28 = .returned (Value.tuple ⟨[(Slc.v s30), e31]⟩) ∧
  isI e31 ∧
  BIf (!isNilI e31) (
    K (Value.tuple ⟨[(Slc.v (⟨none, 0, 0⟩ : Slc)), e31]⟩) w29) (
    ∃ n32 : Int, ∃ n33 : Int, ∃ n34 : Int, ∃ n35 : Int, ∃ n36 : Int, ∃ n37 : Int, ∃ s38 : Slc, ∃ t39 : List UInt8, ∃ n40 : Int, ∃ n41 : Int, ∃ n42 : Int, ∃ s43 : Slc, rowAt w29 (⟨r14, 0, none⟩ : Addr) 0 [(Value.int .i64 n32), (Value.int .i64 n33), (Value.int .i64 n34), (Value.int .i64 n35), (Value.int .i64 n36), (Value.int .i64 n37), (Slc.v s38), (strV t39), (Value.int .i64 n40), (Value.int .i64 n41), (Value.int .i64 n42), (Slc.v s43)] ∧
    Calls Tryd.prog fn_entry_Streams ⟨[(Value.agg ⟨[(Value.int .i64 n32), (Value.int .i64 n33), (Value.int .i64 n34), (Value.int .i64 n35), (Value.int .i64 n36), (Value.int .i64 n37), (Slc.v s38), (strV t39), (Value.int .i64 n40), (Value.int .i64 n41), (Value.int .i64 n42), (Slc.v s43)]⟩)]⟩ w29 fun e44 w45 =>
    ∃ s46 : Slc, e44 = .returned (Slc.v s46) ∧
    Calls Tryd.prog fn_slices_EqualFunc_Back ⟨[(Slc.v s46), (Slc.v backs13), (Value.func (.func 29) ⟨[]⟩ ⟨[]⟩)]⟩ w45 fun e47 w48 =>
    ∃ b49 : Bool, e47 = .returned (Value.bool b49) ∧
    BIf (!b49) (
      ∃ v50 : Value, World.cell? (World.drew w48) (⟨gl_ErrForm, 0, none⟩ : Addr) = some v50 ∧
      K (Value.tuple ⟨[(Slc.v (⟨none, 0, 0⟩ : Slc)), v50]⟩) (World.drew w48)) (
      newS w48 (.cells ⟨[(Slc.v (⟨none, 0, 0⟩ : Slc)), Value.nilIface]⟩ 69) fun r51 w52 =>
      Calls Tryd.prog fn_pack_Out_Num ⟨[(Value.pointer (some (⟨r51, 0, none⟩ : Addr))), (Value.int .i64 (1 : Int))]⟩ w52 fun e53 w54 =>
      e53 = .returned (Value.tuple #[]) ∧
      Calls Tryd.prog fn_pack_Out_Num ⟨[(Value.pointer (some (⟨r51, 0, none⟩ : Addr))), (Value.int .i64 ((backs13.l : Nat) : Int))]⟩ w54 fun e55 w56 =>
      e55 = .returned (Value.tuple #[]) ∧
      ∃ (I57 : (Int) → World → Prop) (mu58 : (Int) → World → Nat), I57 ((0 : Int)) w56 ∧ (
      ∀ i59 : Int, ∀ w60 : World, I57 i59 w60 → ∀ u61 u62 u63 u64 u65 u66 u67 u68 u69 : Value,
        BIf (decide (i59 < ((backs13.l : Nat) : Int))) (
          needSome backs13.p fun a70 =>
          0 ≤ i59 ∧ i59 < ((backs13.l : Nat) : Int) ∧
          ∃ n71 : Int, ∃ s72 : Slc, rowAt w60 (Addr.add a70 ((Int.toNat i59) * 2)) 0 [(Value.int .i64 n71), (Slc.v s72)] ∧
          newS w60 (.cells ⟨[(Value.int .i64 (0 : Int)), (Slc.v (⟨none, 0, 0⟩ : Slc))]⟩ 46) fun r73 w74 =>
          canW w74 (⟨r73, 0, none⟩ : Addr) 2 ∧ ∀ w75 : World, w75 = setCells w74 (⟨r73, 0, none⟩ : Addr) 0 [(Value.int .i64 n71), (Slc.v s72)] →
          ∃ s76 : Slc, World.cell? w75 (⟨r73, 1, none⟩ : Addr) = some (Slc.v s76) ∧
          Calls Tryd.prog fn_pack_Out_Nums ⟨[(Value.pointer (some (⟨r51, 0, none⟩ : Addr))), (Slc.v s76)]⟩ w75 fun e77 w78 =>
          e77 = .returned (Value.tuple #[]) ∧
          inR .i64 (i59 + (1 : Int)) ∧
          (I57 ((i59 + (1 : Int))) w78 ∧ mu58 ((i59 + (1 : Int))) w78 < mu58 i59 w60)) (
          ∃ t79 : List UInt8, bytesAt w60 s30 t79 ∧
          Calls Tryd.prog fn_pack_Out_Text ⟨[(Value.pointer (some (⟨r51, 0, none⟩ : Addr))), (strV t79)]⟩ w60 fun e80 w81 =>
          e80 = .returned (Value.tuple #[]) ∧
          Calls Tryd.prog fn_pack_Out_Done ⟨[(Value.pointer (some (⟨r51, 0, none⟩ : Addr)))]⟩ w81 fun e82 w83 =>
          ∃ s84 : Slc, ∃ e85 : Value, e82 = .returned (Value.tuple ⟨[(Slc.v s84), e85]⟩) ∧
          K (Value.tuple ⟨[(Slc.v s84), e85]⟩) w83))))

theorem page_Bytes_eq (e1 : Int) (e2 : Int) (e3 : Int) (e4 : Int) (e5 : Int) (e6 : Int) (e7 : Slc) (e8 : List UInt8) (e9 : Int) (e10 : Int) (e11 : Int) (e12 : Slc) (backs13 : Slc) (w : World) (K : Value → World → Prop) : page_Bytes e1 e2 e3 e4 e5 e6 e7 e8 e9 e10 e11 e12 backs13 w K = denF Tryd.prog callB Tryd.f9 (.two .none (.two .none (.two .none (.two .none (.two .none (.two .none (.two .none (.two .none (.two (.two .none (.one (.loop [(37, (Sh.int .i64))] [11, 38, 39, 40, 41, 42, 43, 44, 45] .none))) .none))))))))) [(Value.agg ⟨[(Value.int .i64 e1), (Value.int .i64 e2), (Value.int .i64 e3), (Value.int .i64 e4), (Value.int .i64 e5), (Value.int .i64 e6), (Slc.v e7), (strV e8), (Value.int .i64 e9), (Value.int .i64 e10), (Value.int .i64 e11), (Slc.v e12)]⟩), (Slc.v backs13)] w K := by kernel_rfl
theorem page_Bytes_ok (e1 : Int) (e2 : Int) (e3 : Int) (e4 : Int) (e5 : Int) (e6 : Int) (e7 : Slc) (e8 : List UInt8) (e9 : Int) (e10 : Int) (e11 : Int) (e12 : Slc) (backs13 : Slc) {w : World} {R : Ending → World → Prop} (h : page_Bytes e1 e2 e3 e4 e5 e6 e7 e8 e9 e10 e11 e12 backs13 w fun v w' => R (.returned v) w') : Calls Tryd.prog fn_page_Bytes ⟨[(Value.agg ⟨[(Value.int .i64 e1), (Value.int .i64 e2), (Value.int .i64 e3), (Value.int .i64 e4), (Value.int .i64 e5), (Value.int .i64 e6), (Slc.v e7), (strV e8), (Value.int .i64 e9), (Value.int .i64 e10), (Value.int .i64 e11), (Slc.v e12)]⟩), (Slc.v backs13)]⟩ w R :=
  calls_of_den callB_ok mixed Tryd.func9 (page_Bytes_eq e1 e2 e3 e4 e5 e6 e7 e8 e9 e10 e11 e12 backs13 w _ ▸ h)

/-- tidewater/page.Read -/
def page_Read (b1 : Slc) (w : World) (K : Value → World → Prop) : Prop :=
  newS w (.cells ⟨[(Value.int .i64 (0 : Int)), (Value.int .i64 (0 : Int)), (Value.int .i64 (0 : Int)), (Value.int .i64 (0 : Int)), (Value.int .i64 (0 : Int)), (Value.int .i64 (0 : Int)), (Slc.v (⟨none, 0, 0⟩ : Slc)), (strV ([] : List UInt8)), (Value.int .i64 (0 : Int)), (Value.int .i64 (0 : Int)), (Value.int .i64 (0 : Int)), (Slc.v (⟨none, 0, 0⟩ : Slc))]⟩ 25) fun r2 w3 =>
  BIf (decide ((2048 : Int) < ((b1.l : Nat) : Int))) (
    ∃ v4 : Value, World.cell? (World.drew w3) (⟨gl_ErrLong, 0, none⟩ : Addr) = some v4 ∧
    canW (World.drew w3) (⟨r2, 0, none⟩ : Addr) 12 ∧ ∀ w5 : World, w5 = setCells (World.drew w3) (⟨r2, 0, none⟩ : Addr) 0 [(Value.int .i64 (0 : Int)), (Value.int .i64 (0 : Int)), (Value.int .i64 (0 : Int)), (Value.int .i64 (0 : Int)), (Value.int .i64 (0 : Int)), (Value.int .i64 (0 : Int)), (Slc.v (⟨none, 0, 0⟩ : Slc)), (strV ([] : List UInt8)), (Value.int .i64 (0 : Int)), (Value.int .i64 (0 : Int)), (Value.int .i64 (0 : Int)), (Slc.v (⟨none, 0, 0⟩ : Slc))] →
    (∃ v6 : Value, World.cell? w5 (⟨gl_ErrLong, 0, none⟩ : Addr) = some v6 ∧
    v6 = v4) ∧
    ∃ n7 : Int, ∃ n8 : Int, ∃ n9 : Int, ∃ n10 : Int, ∃ n11 : Int, ∃ n12 : Int, ∃ s13 : Slc, ∃ t14 : List UInt8, ∃ n15 : Int, ∃ n16 : Int, ∃ n17 : Int, ∃ s18 : Slc, rowAt w5 (⟨r2, 0, none⟩ : Addr) 0 [(Value.int .i64 n7), (Value.int .i64 n8), (Value.int .i64 n9), (Value.int .i64 n10), (Value.int .i64 n11), (Value.int .i64 n12), (Slc.v s13), (strV t14), (Value.int .i64 n15), (Value.int .i64 n16), (Value.int .i64 n17), (Slc.v s18)] ∧
    K (Value.tuple ⟨[(Value.agg ⟨[(Value.int .i64 n7), (Value.int .i64 n8), (Value.int .i64 n9), (Value.int .i64 n10), (Value.int .i64 n11), (Value.int .i64 n12), (Slc.v s13), (strV t14), (Value.int .i64 n15), (Value.int .i64 n16), (Value.int .i64 n17), (Slc.v s18)]⟩), (Slc.v (⟨none, 0, 0⟩ : Slc)), v4]⟩) w5) (
    Calls Tryd.prog fn_pack_Read ⟨[(Slc.v b1)]⟩ w3 fun e19 w20 =>
    ∃ p21 : Option Addr, e19 = .returned (Value.pointer p21) ∧
    Calls Tryd.prog fn_pack_In_Num ⟨[(Value.pointer p21), (Value.int .i64 (1 : Int))]⟩ w20 fun e22 w23 =>
    ∃ n24 : Int, e22 = .returned (Value.int .i64 n24) ∧
    Calls Tryd.prog fn_pack_In_Num ⟨[(Value.pointer p21), (Value.int .i64 (3 : Int))]⟩ w23 fun e25 w26 =>
    ∃ n27 : Int, e25 = .returned (Value.int .i64 n27) ∧
    ∃ (I28 : (Slc) → World → Prop) (mu29 : (Slc) → World → Nat), I28 ((⟨none, 0, 0⟩ : Slc)) w26 ∧ (
    ∀ lists30 : Slc, ∀ w31 : World, I28 lists30 w31 → ∀ u32 u33 u34 u35 u36 u37 u38 u39 u40 : Value,
      BIf (decide (((lists30.l : Nat) : Int) < n27)) (
        Calls Tryd.prog fn_pack_In_Nums ⟨[(Value.pointer p21), (Value.int .i64 (4 : Int)), (Value.int .i64 (4095 : Int))]⟩ w31 fun e41 w42 =>
        ∃ s43 : Slc, e41 = .returned (Slc.v s43) ∧
        newS w42 (.cells ⟨[(Slc.v s43)]⟩ 42) fun r44 w45 =>
        appendS 1 42 [(Slc.v (⟨none, 0, 0⟩ : Slc))] w45 lists30 (.slc (⟨(some (⟨r44, 0, none⟩ : Addr)), 1, 1⟩ : Slc)) fun s46 w47 =>
        (I28 (s46) w47 ∧ mu29 (s46) w47 < mu29 lists30 w31)) (
        Calls Tryd.prog fn_pack_In_Text ⟨[(Value.pointer p21), (Value.int .i64 (2048 : Int))]⟩ w31 fun e48 w49 =>
        ∃ t50 : List UInt8, e48 = .returned (strV t50) ∧
        Calls Tryd.prog fn_pack_In_End ⟨[(Value.pointer p21)]⟩ w49 fun e51 w52 =>
        ∃ e53 : Value, e51 = .returned e53 ∧
        isI e53 ∧
        BIf (!isNilI e53) (
          canW w52 (⟨r2, 0, none⟩ : Addr) 12 ∧ ∀ w54 : World, w54 = setCells w52 (⟨r2, 0, none⟩ : Addr) 0 [(Value.int .i64 (0 : Int)), (Value.int .i64 (0 : Int)), (Value.int .i64 (0 : Int)), (Value.int .i64 (0 : Int)), (Value.int .i64 (0 : Int)), (Value.int .i64 (0 : Int)), (Slc.v (⟨none, 0, 0⟩ : Slc)), (strV ([] : List UInt8)), (Value.int .i64 (0 : Int)), (Value.int .i64 (0 : Int)), (Value.int .i64 (0 : Int)), (Slc.v (⟨none, 0, 0⟩ : Slc))] →
          ∃ n55 : Int, ∃ n56 : Int, ∃ n57 : Int, ∃ n58 : Int, ∃ n59 : Int, ∃ n60 : Int, ∃ s61 : Slc, ∃ t62 : List UInt8, ∃ n63 : Int, ∃ n64 : Int, ∃ n65 : Int, ∃ s66 : Slc, rowAt w54 (⟨r2, 0, none⟩ : Addr) 0 [(Value.int .i64 n55), (Value.int .i64 n56), (Value.int .i64 n57), (Value.int .i64 n58), (Value.int .i64 n59), (Value.int .i64 n60), (Slc.v s61), (strV t62), (Value.int .i64 n63), (Value.int .i64 n64), (Value.int .i64 n65), (Slc.v s66)] ∧
          K (Value.tuple ⟨[(Value.agg ⟨[(Value.int .i64 n55), (Value.int .i64 n56), (Value.int .i64 n57), (Value.int .i64 n58), (Value.int .i64 n59), (Value.int .i64 n60), (Slc.v s61), (strV t62), (Value.int .i64 n63), (Value.int .i64 n64), (Value.int .i64 n65), (Slc.v s66)]⟩), (Slc.v (⟨none, 0, 0⟩ : Slc)), e53]⟩) w54) (
          BIf (!decide (n24 = (1 : Int))) (
            ∃ v67 : Value, World.cell? (World.drew w52) (⟨gl_ErrForm, 0, none⟩ : Addr) = some v67 ∧
            canW (World.drew w52) (⟨r2, 0, none⟩ : Addr) 12 ∧ ∀ w68 : World, w68 = setCells (World.drew w52) (⟨r2, 0, none⟩ : Addr) 0 [(Value.int .i64 (0 : Int)), (Value.int .i64 (0 : Int)), (Value.int .i64 (0 : Int)), (Value.int .i64 (0 : Int)), (Value.int .i64 (0 : Int)), (Value.int .i64 (0 : Int)), (Slc.v (⟨none, 0, 0⟩ : Slc)), (strV ([] : List UInt8)), (Value.int .i64 (0 : Int)), (Value.int .i64 (0 : Int)), (Value.int .i64 (0 : Int)), (Slc.v (⟨none, 0, 0⟩ : Slc))] →
            (∃ v69 : Value, World.cell? w68 (⟨gl_ErrForm, 0, none⟩ : Addr) = some v69 ∧
            v69 = v67) ∧
            ∃ n70 : Int, ∃ n71 : Int, ∃ n72 : Int, ∃ n73 : Int, ∃ n74 : Int, ∃ n75 : Int, ∃ s76 : Slc, ∃ t77 : List UInt8, ∃ n78 : Int, ∃ n79 : Int, ∃ n80 : Int, ∃ s81 : Slc, rowAt w68 (⟨r2, 0, none⟩ : Addr) 0 [(Value.int .i64 n70), (Value.int .i64 n71), (Value.int .i64 n72), (Value.int .i64 n73), (Value.int .i64 n74), (Value.int .i64 n75), (Slc.v s76), (strV t77), (Value.int .i64 n78), (Value.int .i64 n79), (Value.int .i64 n80), (Slc.v s81)] ∧
            K (Value.tuple ⟨[(Value.agg ⟨[(Value.int .i64 n70), (Value.int .i64 n71), (Value.int .i64 n72), (Value.int .i64 n73), (Value.int .i64 n74), (Value.int .i64 n75), (Slc.v s76), (strV t77), (Value.int .i64 n78), (Value.int .i64 n79), (Value.int .i64 n80), (Slc.v s81)]⟩), (Slc.v (⟨none, 0, 0⟩ : Slc)), v67]⟩) w68) (
            bytesK Tryd.prog 5 t50 w52 fun s82 w83 =>
            Calls Tryd.prog fn_entry_Read ⟨[(Slc.v s82)]⟩ w83 fun e84 w85 =>
            ∃ x86 : Int, ∃ x87 : Int, ∃ x88 : Int, ∃ x89 : Int, ∃ x90 : Int, ∃ x91 : Int, ∃ x92 : Slc, ∃ x93 : List UInt8, ∃ x94 : Int, ∃ x95 : Int, ∃ x96 : Int, ∃ x97 : Slc, ∃ e98 : Value, e84 = .returned (Value.tuple ⟨[(Value.agg ⟨[(Value.int .i64 x86), (Value.int .i64 x87), (Value.int .i64 x88), (Value.int .i64 x89), (Value.int .i64 x90), (Value.int .i64 x91), (Slc.v x92), (strV x93), (Value.int .i64 x94), (Value.int .i64 x95), (Value.int .i64 x96), (Slc.v x97)]⟩), e98]⟩) ∧
            newS w85 (.cells ⟨[(Value.int .i64 (0 : Int)), (Value.int .i64 (0 : Int)), (Value.int .i64 (0 : Int)), (Value.int .i64 (0 : Int)), (Value.int .i64 (0 : Int)), (Value.int .i64 (0 : Int)), (Slc.v (⟨none, 0, 0⟩ : Slc)), (strV ([] : List UInt8)), (Value.int .i64 (0 : Int)), (Value.int .i64 (0 : Int)), (Value.int .i64 (0 : Int)), (Slc.v (⟨none, 0, 0⟩ : Slc))]⟩ 25) fun r99 w100 =>
            canW w100 (⟨r99, 0, none⟩ : Addr) 12 ∧ ∀ w101 : World, w101 = setCells w100 (⟨r99, 0, none⟩ : Addr) 0 [(Value.int .i64 x86), (Value.int .i64 x87), (Value.int .i64 x88), (Value.int .i64 x89), (Value.int .i64 x90), (Value.int .i64 x91), (Slc.v x92), (strV x93), (Value.int .i64 x94), (Value.int .i64 x95), (Value.int .i64 x96), (Slc.v x97)] →
            isI e98 ∧
            BIf (!isNilI e98) (
              canW w101 (⟨r2, 0, none⟩ : Addr) 12 ∧ ∀ w102 : World, w102 = setCells w101 (⟨r2, 0, none⟩ : Addr) 0 [(Value.int .i64 (0 : Int)), (Value.int .i64 (0 : Int)), (Value.int .i64 (0 : Int)), (Value.int .i64 (0 : Int)), (Value.int .i64 (0 : Int)), (Value.int .i64 (0 : Int)), (Slc.v (⟨none, 0, 0⟩ : Slc)), (strV ([] : List UInt8)), (Value.int .i64 (0 : Int)), (Value.int .i64 (0 : Int)), (Value.int .i64 (0 : Int)), (Slc.v (⟨none, 0, 0⟩ : Slc))] →
              ∃ n103 : Int, ∃ n104 : Int, ∃ n105 : Int, ∃ n106 : Int, ∃ n107 : Int, ∃ n108 : Int, ∃ s109 : Slc, ∃ t110 : List UInt8, ∃ n111 : Int, ∃ n112 : Int, ∃ n113 : Int, ∃ s114 : Slc, rowAt w102 (⟨r2, 0, none⟩ : Addr) 0 [(Value.int .i64 n103), (Value.int .i64 n104), (Value.int .i64 n105), (Value.int .i64 n106), (Value.int .i64 n107), (Value.int .i64 n108), (Slc.v s109), (strV t110), (Value.int .i64 n111), (Value.int .i64 n112), (Value.int .i64 n113), (Slc.v s114)] ∧
              K (Value.tuple ⟨[(Value.agg ⟨[(Value.int .i64 n103), (Value.int .i64 n104), (Value.int .i64 n105), (Value.int .i64 n106), (Value.int .i64 n107), (Value.int .i64 n108), (Slc.v s109), (strV t110), (Value.int .i64 n111), (Value.int .i64 n112), (Value.int .i64 n113), (Slc.v s114)]⟩), (Slc.v (⟨none, 0, 0⟩ : Slc)), e98]⟩) w102) (
              ∃ n115 : Int, ∃ n116 : Int, ∃ n117 : Int, ∃ n118 : Int, ∃ n119 : Int, ∃ n120 : Int, ∃ s121 : Slc, ∃ t122 : List UInt8, ∃ n123 : Int, ∃ n124 : Int, ∃ n125 : Int, ∃ s126 : Slc, rowAt w101 (⟨r99, 0, none⟩ : Addr) 0 [(Value.int .i64 n115), (Value.int .i64 n116), (Value.int .i64 n117), (Value.int .i64 n118), (Value.int .i64 n119), (Value.int .i64 n120), (Slc.v s121), (strV t122), (Value.int .i64 n123), (Value.int .i64 n124), (Value.int .i64 n125), (Slc.v s126)] ∧
              Calls Tryd.prog fn_entry_Streams ⟨[(Value.agg ⟨[(Value.int .i64 n115), (Value.int .i64 n116), (Value.int .i64 n117), (Value.int .i64 n118), (Value.int .i64 n119), (Value.int .i64 n120), (Slc.v s121), (strV t122), (Value.int .i64 n123), (Value.int .i64 n124), (Value.int .i64 n125), (Slc.v s126)]⟩)]⟩ w101 fun e127 w128 =>
              ∃ s129 : Slc, e127 = .returned (Slc.v s129) ∧
              Calls Tryd.prog fn_slices_EqualFunc_Sint ⟨[(Slc.v s129), (Slc.v lists30), (Value.func (.func 25) ⟨[]⟩ ⟨[]⟩)]⟩ w128 fun e130 w131 =>
              ∃ b132 : Bool, e130 = .returned (Value.bool b132) ∧
              BIf (!b132) (
                ∃ v133 : Value, World.cell? (World.drew w131) (⟨gl_ErrForm, 0, none⟩ : Addr) = some v133 ∧
                canW (World.drew w131) (⟨r2, 0, none⟩ : Addr) 12 ∧ ∀ w134 : World, w134 = setCells (World.drew w131) (⟨r2, 0, none⟩ : Addr) 0 [(Value.int .i64 (0 : Int)), (Value.int .i64 (0 : Int)), (Value.int .i64 (0 : Int)), (Value.int .i64 (0 : Int)), (Value.int .i64 (0 : Int)), (Value.int .i64 (0 : Int)), (Slc.v (⟨none, 0, 0⟩ : Slc)), (strV ([] : List UInt8)), (Value.int .i64 (0 : Int)), (Value.int .i64 (0 : Int)), (Value.int .i64 (0 : Int)), (Slc.v (⟨none, 0, 0⟩ : Slc))] →
                (∃ v135 : Value, World.cell? w134 (⟨gl_ErrForm, 0, none⟩ : Addr) = some v135 ∧
                v135 = v133) ∧
                ∃ n136 : Int, ∃ n137 : Int, ∃ n138 : Int, ∃ n139 : Int, ∃ n140 : Int, ∃ n141 : Int, ∃ s142 : Slc, ∃ t143 : List UInt8, ∃ n144 : Int, ∃ n145 : Int, ∃ n146 : Int, ∃ s147 : Slc, rowAt w134 (⟨r2, 0, none⟩ : Addr) 0 [(Value.int .i64 n136), (Value.int .i64 n137), (Value.int .i64 n138), (Value.int .i64 n139), (Value.int .i64 n140), (Value.int .i64 n141), (Slc.v s142), (strV t143), (Value.int .i64 n144), (Value.int .i64 n145), (Value.int .i64 n146), (Slc.v s147)] ∧
                K (Value.tuple ⟨[(Value.agg ⟨[(Value.int .i64 n136), (Value.int .i64 n137), (Value.int .i64 n138), (Value.int .i64 n139), (Value.int .i64 n140), (Value.int .i64 n141), (Slc.v s142), (strV t143), (Value.int .i64 n144), (Value.int .i64 n145), (Value.int .i64 n146), (Slc.v s147)]⟩), (Slc.v (⟨none, 0, 0⟩ : Slc)), v133]⟩) w134) (
                ∃ (I148 : (Slc) → (Int) → World → Prop) (mu149 : (Slc) → (Int) → World → Nat), I148 ((⟨none, 0, 0⟩ : Slc)) ((0 : Int)) w131 ∧ (
                ∀ backs150 : Slc, ∀ i151 : Int, ∀ w152 : World, I148 backs150 i151 w152 → ∀ u153 u154 u155 u156 u157 u158 u159 u160 u161 u162 u163 u164 u165 u166 u167 u168 : Value,
                  BIf (decide (i151 < ((s129.l : Nat) : Int))) (
                    needSome s129.p fun a169 =>
                    0 ≤ i151 ∧ i151 < ((s129.l : Nat) : Int) ∧
                    ∃ n170 : Int, World.cell? w152 (Addr.add a169 ((Int.toNat i151) * 1)) = some (Value.int .i64 n170) ∧
                    needSome lists30.p fun a171 =>
                    0 ≤ i151 ∧ i151 < ((lists30.l : Nat) : Int) ∧
                    ∃ s172 : Slc, World.cell? w152 (Addr.add a171 ((Int.toNat i151) * 1)) = some (Slc.v s172) ∧
                    newS w152 (.cells ⟨[(Value.int .i64 n170), (Slc.v s172)]⟩ 46) fun r173 w174 =>
                    appendS 2 46 [(Value.int .i64 (0 : Int)), (Slc.v (⟨none, 0, 0⟩ : Slc))] w174 backs150 (.slc (⟨(some (⟨r173, 0, none⟩ : Addr)), 1, 1⟩ : Slc)) fun s175 w176 =>
                    inR .i64 (i151 + (1 : Int)) ∧
                    (I148 (s175) ((i151 + (1 : Int))) w176 ∧ mu149 (s175) ((i151 + (1 : Int))) w176 < mu149 backs150 i151 w152)) (
                    ∃ n177 : Int, ∃ n178 : Int, ∃ n179 : Int, ∃ n180 : Int, ∃ n181 : Int, ∃ n182 : Int, ∃ s183 : Slc, ∃ t184 : List UInt8, ∃ n185 : Int, ∃ n186 : Int, ∃ n187 : Int, ∃ s188 : Slc, rowAt w152 (⟨r99, 0, none⟩ : Addr) 0 [(Value.int .i64 n177), (Value.int .i64 n178), (Value.int .i64 n179), (Value.int .i64 n180), (Value.int .i64 n181), (Value.int .i64 n182), (Slc.v s183), (strV t184), (Value.int .i64 n185), (Value.int .i64 n186), (Value.int .i64 n187), (Slc.v s188)] ∧
                    canW w152 (⟨r2, 0, none⟩ : Addr) 12 ∧ ∀ w189 : World, w189 = setCells w152 (⟨r2, 0, none⟩ : Addr) 0 [(Value.int .i64 n177), (Value.int .i64 n178), (Value.int .i64 n179), (Value.int .i64 n180), (Value.int .i64 n181), (Value.int .i64 n182), (Slc.v s183), (strV t184), (Value.int .i64 n185), (Value.int .i64 n186), (Value.int .i64 n187), (Slc.v s188)] →
                    ∃ n190 : Int, ∃ n191 : Int, ∃ n192 : Int, ∃ n193 : Int, ∃ n194 : Int, ∃ n195 : Int, ∃ s196 : Slc, ∃ t197 : List UInt8, ∃ n198 : Int, ∃ n199 : Int, ∃ n200 : Int, ∃ s201 : Slc, rowAt w189 (⟨r2, 0, none⟩ : Addr) 0 [(Value.int .i64 n190), (Value.int .i64 n191), (Value.int .i64 n192), (Value.int .i64 n193), (Value.int .i64 n194), (Value.int .i64 n195), (Slc.v s196), (strV t197), (Value.int .i64 n198), (Value.int .i64 n199), (Value.int .i64 n200), (Slc.v s201)] ∧
                    K (Value.tuple ⟨[(Value.agg ⟨[(Value.int .i64 n190), (Value.int .i64 n191), (Value.int .i64 n192), (Value.int .i64 n193), (Value.int .i64 n194), (Value.int .i64 n195), (Slc.v s196), (strV t197), (Value.int .i64 n198), (Value.int .i64 n199), (Value.int .i64 n200), (Slc.v s201)]⟩), (Slc.v backs150), Value.nilIface]⟩) w189)))))))))

theorem page_Read_eq (b1 : Slc) (w : World) (K : Value → World → Prop) : page_Read b1 w K = denF Tryd.prog callB Tryd.f8 (.two .none (.two .none (.two .none (.two .none (.two .none (.two (.two .none (.one (.loop [(7, Sh.slc)] [28, 29, 30, 31, 32, 33, 34, 35, 36] .none))) (.two .none (.two .none (.two .none (.two .none (.two .none (.two .none (.two .none (.two .none (.two (.two .none (.one (.loop [(14, Sh.slc), (69, (Sh.int .i64))] [15, 16, 70, 71, 72, 73, 74, 75, 76, 77, 78, 79, 80, 81, 82, 83] .none))) .none))))))))))))))) [(Slc.v b1)] w K := by kernel_rfl
theorem page_Read_ok (b1 : Slc) {w : World} {R : Ending → World → Prop} (h : page_Read b1 w fun v w' => R (.returned v) w') : Calls Tryd.prog fn_page_Read ⟨[(Slc.v b1)]⟩ w R :=
  calls_of_den callB_ok mixed Tryd.func8 (page_Read_eq b1 w _ ▸ h)

/-- tidewater/page.Junk -/
def page_Junk  (w : World) (K : Value → World → Prop) : Prop :=
  newS w (.cells ⟨[(Value.int .u8 (0 : Int))]⟩ 5) fun r1 w2 =>
  ∀ w4 : World, w4 = markW w2 r1 →
  K (Slc.v (⟨(some (⟨r1, 0, none⟩ : Addr)), 1, 1⟩ : Slc)) w4

theorem page_Junk_eq  (w : World) (K : Value → World → Prop) : page_Junk  w K = denF Tryd.prog callB Tryd.f16 .none [] w K := by kernel_rfl
theorem page_Junk_ok  {w : World} {R : Ending → World → Prop} (h : page_Junk  w fun v w' => R (.returned v) w') : Calls Tryd.prog fn_page_Junk ⟨[]⟩ w R :=
  calls_of_den callB_ok mixed Tryd.func16 (page_Junk_eq  w _ ▸ h)

/-- tidewater/page.IsJunk -/
def page_IsJunk (b1 : Slc) (w : World) (K : Value → World → Prop) : Prop :=
  ∃ t2 : List UInt8, bytesAt w b1 t2 ∧
  K (Value.bool (decide (t2 = ([0] : List UInt8)))) w

theorem page_IsJunk_eq (b1 : Slc) (w : World) (K : Value → World → Prop) : page_IsJunk b1 w K = denF Tryd.prog callB Tryd.f7 .none [(Slc.v b1)] w K := by kernel_rfl
theorem page_IsJunk_ok (b1 : Slc) {w : World} {R : Ending → World → Prop} (h : page_IsJunk b1 w fun v w' => R (.returned v) w') : Calls Tryd.prog fn_page_IsJunk ⟨[(Slc.v b1)]⟩ w R :=
  calls_of_den callB_ok mixed Tryd.func7 (page_IsJunk_eq b1 w _ ▸ h)

/-- tidewater/page.Backs -/
def page_Backs (b1 : Slc) (stream2 : Int) (w : World) (K : Value → World → Prop) : Prop :=
  Calls Tryd.prog fn_page_Read ⟨[(Slc.v b1)]⟩ w fun e3 w4 =>
  ∃ x5 : Int, ∃ x6 : Int, ∃ x7 : Int, ∃ x8 : Int, ∃ x9 : Int, ∃ x10 : Int, ∃ x11 : Slc, ∃ x12 : List UInt8, ∃ x13 : Int, ∃ x14 : Int, ∃ x15 : Int, ∃ x16 : Slc, ∃ s17 : Slc, ∃ e18 : Value, e3 = .returned (Value.tuple ⟨[(Value.agg ⟨[(Value.int .i64 x5), (Value.int .i64 x6), (Value.int .i64 x7), (Value.int .i64 x8), (Value.int .i64 x9), (Value.int .i64 x10), (Slc.v x11), (strV x12), (Value.int .i64 x13), (Value.int .i64 x14), (Value.int .i64 x15), (Slc.v x16)]⟩), (Slc.v s17), e18]⟩) ∧
  newS w4 (.cells ⟨[(Value.int .i64 (0 : Int)), (Value.int .i64 (0 : Int)), (Value.int .i64 (0 : Int)), (Value.int .i64 (0 : Int)), (Value.int .i64 (0 : Int)), (Value.int .i64 (0 : Int)), (Slc.v (⟨none, 0, 0⟩ : Slc)), (strV ([] : List UInt8)), (Value.int .i64 (0 : Int)), (Value.int .i64 (0 : Int)), (Value.int .i64 (0 : Int)), (Slc.v (⟨none, 0, 0⟩ : Slc))]⟩ 25) fun r19 w20 =>
  canW w20 (⟨r19, 0, none⟩ : Addr) 12 ∧ ∀ w21 : World, w21 = setCells w20 (⟨r19, 0, none⟩ : Addr) 0 [(Value.int .i64 x5), (Value.int .i64 x6), (Value.int .i64 x7), (Value.int .i64 x8), (Value.int .i64 x9), (Value.int .i64 x10), (Slc.v x11), (strV x12), (Value.int .i64 x13), (Value.int .i64 x14), (Value.int .i64 x15), (Slc.v x16)] →
  isI e18 ∧
  BIf (!isNilI e18) (
    K (Value.tuple ⟨[(Slc.v (⟨none, 0, 0⟩ : Slc)), (Value.bool false)]⟩) w21) (
    ∃ (I22 : (Int) → World → Prop) (mu23 : (Int) → World → Nat), I22 ((0 : Int)) w21 ∧ (
    ∀ i24 : Int, ∀ w25 : World, I22 i24 w25 → ∀ u26 u27 u28 u29 u30 u31 u32 u33 u34 u35 u36 u37 u38 : Value,
      BIf (decide (i24 < ((s17.l : Nat) : Int))) (
        needSome s17.p fun a39 =>
        0 ≤ i24 ∧ i24 < ((s17.l : Nat) : Int) ∧
        ∃ n40 : Int, ∃ s41 : Slc, rowAt w25 (Addr.add a39 ((Int.toNat i24) * 2)) 0 [(Value.int .i64 n40), (Slc.v s41)] ∧
        newS w25 (.cells ⟨[(Value.int .i64 (0 : Int)), (Slc.v (⟨none, 0, 0⟩ : Slc))]⟩ 46) fun r42 w43 =>
        canW w43 (⟨r42, 0, none⟩ : Addr) 2 ∧ ∀ w44 : World, w44 = setCells w43 (⟨r42, 0, none⟩ : Addr) 0 [(Value.int .i64 n40), (Slc.v s41)] →
        ∃ n45 : Int, World.cell? w44 (⟨r42, 0, none⟩ : Addr) = some (Value.int .i64 n45) ∧
        BIf (decide (n45 = stream2)) (
          ∃ s46 : Slc, World.cell? w44 (⟨r42, 1, none⟩ : Addr) = some (Slc.v s46) ∧
          K (Value.tuple ⟨[(Slc.v s46), (Value.bool true)]⟩) w44) (
          inR .i64 (i24 + (1 : Int)) ∧
          (I22 ((i24 + (1 : Int))) w44 ∧ mu23 ((i24 + (1 : Int))) w44 < mu23 i24 w25))) (
        K (Value.tuple ⟨[(Slc.v (⟨none, 0, 0⟩ : Slc)), (Value.bool false)]⟩) w25)))

theorem page_Backs_eq (b1 : Slc) (stream2 : Int) (w : World) (K : Value → World → Prop) : page_Backs b1 stream2 w K = denF Tryd.prog callB Tryd.f14 (.two .none (.two .none (.two .none (.two (.two .none (.one (.loop [(21, (Sh.int .i64))] [4, 5, 10, 22, 23, 24, 25, 26, 27, 28, 29, 30, 31] .none))) .none)))) [(Slc.v b1), (Value.int .i64 stream2)] w K := by kernel_rfl
theorem page_Backs_ok (b1 : Slc) (stream2 : Int) {w : World} {R : Ending → World → Prop} (h : page_Backs b1 stream2 w fun v w' => R (.returned v) w') : Calls Tryd.prog fn_page_Backs ⟨[(Slc.v b1), (Value.int .i64 stream2)]⟩ w R :=
  calls_of_den callB_ok mixed Tryd.func14 (page_Backs_eq b1 stream2 w _ ▸ h)

end Go.D
