/-
  WHAT IS PROVED: verification conditions of functions of this program, each with its soundness. No further conditions.
-/
import Derived.Test.YtagajpoppiklnaaDoorBase
set_option linter.unusedSimpArgs false
set_option maxRecDepth 100000
set_option linter.unusedVariables false
namespace Go.D
open Go Go.Proofs
/-- tidewater/tidewaterref06.falls -/
def tidewaterref06_falls (l1 : Slc) (w : World) (K : Value → World → Prop) : Prop :=
  ∃ (I2 : (Int) → World → Prop) (mu3 : (Int) → World → Nat), I2 ((0 : Int)) w ∧ (
  ∀ i4 : Int, ∀ w5 : World, I2 i4 w5 → ∀ u6 u7 u8 u9 u10 u11 u12 u13 u14 u15 u16 u17 u18 u19 u20 u21 u22 u23 u24 u25 u26 u27 u28 u29 u30 u31 u32 : Value,
    BIf (decide (i4 < ((l1.l : Nat) : Int))) (
      needSome l1.p fun a33 =>
      0 ≤ i4 ∧ i4 < ((l1.l : Nat) : Int) ∧
      ∃ n34 : Int, World.cell? w5 (Addr.add a33 ((Int.toNat i4) * 1)) = some (Value.int .i64 n34) ∧
      BIf (decide (n34 < (0 : Int))) (
        K (Value.bool false) w5) (
        BIf (decide ((4095 : Int) < n34)) (
          K (Value.bool false) w5) (
          BIf (decide ((0 : Int) < i4)) (
            inR .i64 (i4 - (1 : Int)) ∧
            needSome l1.p fun a35 =>
            0 ≤ (i4 - (1 : Int)) ∧ (i4 - (1 : Int)) < ((l1.l : Nat) : Int) ∧
            ∃ n36 : Int, World.cell? w5 (Addr.add a35 ((Int.toNat (i4 - (1 : Int))) * 1)) = some (Value.int .i64 n36) ∧
            BIf (decide (n36 ≤ n34)) (
              K (Value.bool false) w5) (
              inR .i64 (i4 + (1 : Int)) ∧
              (I2 ((i4 + (1 : Int))) w5 ∧ mu3 ((i4 + (1 : Int))) w5 < mu3 i4 w5))) (
            inR .i64 (i4 + (1 : Int)) ∧
            (I2 ((i4 + (1 : Int))) w5 ∧ mu3 ((i4 + (1 : Int))) w5 < mu3 i4 w5))))) (
      K (Value.bool (decide (((l1.l : Nat) : Int) ≤ (4 : Int)))) w5))

theorem tidewaterref06_falls_eq (l1 : Slc) (w : World) (K : Value → World → Prop) : tidewaterref06_falls l1 w K = denF Tryd.prog callB Tryd.f38 (.two .none (.two (.two .none (.one (.loop [(7, (Sh.int .i64))] [2, 3, 4, 8, 9, 10, 11, 12, 13, 14, 15, 16, 17, 18, 19, 20, 21, 22, 23, 24, 25, 26, 27, 28, 29, 30, 31] .none))) .none)) [(Slc.v l1)] w K := by kernel_rfl
theorem tidewaterref06_falls_ok (l1 : Slc) {w : World} {R : Ending → World → Prop} (h : tidewaterref06_falls l1 w fun v w' => R (.returned v) w') : Calls Tryd.prog fn_tidewaterref06_falls ⟨[(Slc.v l1)]⟩ w R :=
  calls_of_den callB_ok mixed Tryd.func38 (tidewaterref06_falls_eq l1 w _ ▸ h)

/-- tidewater/tidewaterref06.Bytes -/
def tidewaterref06_Bytes (e1 : Int) (e2 : Int) (e3 : Int) (e4 : Int) (e5 : Int) (e6 : Int) (e7 : Slc) (e8 : List UInt8) (e9 : Int) (e10 : Int) (e11 : Int) (e12 : Slc) (backs13 : Slc) (w : World) (K : Value → World → Prop) : Prop :=
  newS w (.cells ⟨[(Value.int .i64 e1), (Value.int .i64 e2), (Value.int .i64 e3), (Value.int .i64 e4), (Value.int .i64 e5), (Value.int .i64 e6), (Slc.v e7), (strV e8), (Value.int .i64 e9), (Value.int .i64 e10), (Value.int .i64 e11), (Slc.v e12)]⟩ 25) fun r14 w15 =>
  ∃ n16 : Int, ∃ n17 : Int, ∃ n18 : Int, ∃ n19 : Int, ∃ n20 : Int, ∃ n21 : Int, ∃ s22 : Slc, ∃ t23 : List UInt8, ∃ n24 : Int, ∃ n25 : Int, ∃ n26 : Int, ∃ s27 : Slc, rowAt w15 (⟨r14, 0, none⟩ : Addr) 0 [(Value.int .i64 n16), (Value.int .i64 n17), (Value.int .i64 n18), (Value.int .i64 n19), (Value.int .i64 n20), (Value.int .i64 n21), (Slc.v s22), (strV t23), (Value.int .i64 n24), (Value.int .i64 n25), (Value.int .i64 n26), (Slc.v s27)] ∧
  Calls Tryd.prog fn_tidewaterref05_Right ⟨[(Value.agg ⟨[(Value.int .i64 n16), (Value.int .i64 n17), (Value.int .i64 n18), (Value.int .i64 n19), (Value.int .i64 n20), (Value.int .i64 n21), (Slc.v s22), (strV t23), (Value.int .i64 n24), (Value.int .i64 n25), (Value.int .i64 n26), (Slc.v s27)]⟩)]⟩ w15 fun e28 w29 =>
  ∃ b30 : Bool, e28 = .returned (Value.bool b30) ∧
  BIf (!b30) (
    K (Value.tuple ⟨[(Slc.v (⟨none, 0, 0⟩ : Slc)), (Value.int .i64 (4 : Int))]⟩) w29) (
    ∃ n31 : Int, ∃ n32 : Int, ∃ n33 : Int, ∃ n34 : Int, ∃ n35 : Int, ∃ n36 : Int, ∃ s37 : Slc, ∃ t38 : List UInt8, ∃ n39 : Int, ∃ n40 : Int, ∃ n41 : Int, ∃ s42 : Slc, rowAt w29 (⟨r14, 0, none⟩ : Addr) 0 [(Value.int .i64 n31), (Value.int .i64 n32), (Value.int .i64 n33), (Value.int .i64 n34), (Value.int .i64 n35), (Value.int .i64 n36), (Slc.v s37), (strV t38), (Value.int .i64 n39), (Value.int .i64 n40), (Value.int .i64 n41), (Slc.v s42)] ∧
    Calls Tryd.prog fn_tidewaterref05_Bytes ⟨[(Value.agg ⟨[(Value.int .i64 n31), (Value.int .i64 n32), (Value.int .i64 n33), (Value.int .i64 n34), (Value.int .i64 n35), (Value.int .i64 n36), (Slc.v s37), (strV t38), (Value.int .i64 n39), (Value.int .i64 n40), (Value.int .i64 n41), (Slc.v s42)]⟩)]⟩ w29 fun e43 w44 =>
    ∃ s45 : Slc, e43 = .returned (Slc.v s45) ∧
    BIf (decide ((1848 : Int) < ((s45.l : Nat) : Int))) (
      K (Value.tuple ⟨[(Slc.v (⟨none, 0, 0⟩ : Slc)), (Value.int .i64 (3 : Int))]⟩) w44) (
      ∃ n46 : Int, ∃ n47 : Int, ∃ n48 : Int, ∃ n49 : Int, ∃ n50 : Int, ∃ n51 : Int, ∃ s52 : Slc, ∃ t53 : List UInt8, ∃ n54 : Int, ∃ n55 : Int, ∃ n56 : Int, ∃ s57 : Slc, rowAt w44 (⟨r14, 0, none⟩ : Addr) 0 [(Value.int .i64 n46), (Value.int .i64 n47), (Value.int .i64 n48), (Value.int .i64 n49), (Value.int .i64 n50), (Value.int .i64 n51), (Slc.v s52), (strV t53), (Value.int .i64 n54), (Value.int .i64 n55), (Value.int .i64 n56), (Slc.v s57)] ∧
      Calls Tryd.prog fn_tidewaterref05_Streams ⟨[(Value.agg ⟨[(Value.int .i64 n46), (Value.int .i64 n47), (Value.int .i64 n48), (Value.int .i64 n49), (Value.int .i64 n50), (Value.int .i64 n51), (Slc.v s52), (strV t53), (Value.int .i64 n54), (Value.int .i64 n55), (Value.int .i64 n56), (Slc.v s57)]⟩)]⟩ w44 fun e58 w59 =>
      ∃ s60 : Slc, e58 = .returned (Slc.v s60) ∧
      BIf (!decide (((s60.l : Nat) : Int) = ((backs13.l : Nat) : Int))) (
        K (Value.tuple ⟨[(Slc.v (⟨none, 0, 0⟩ : Slc)), (Value.int .i64 (4 : Int))]⟩) w59) (
        newS w59 (.cells ⟨[(Value.int .u8 (1 : Int))]⟩ 5) fun r61 w62 =>
        Calls Tryd.prog fn_tidewaterref04_Num ⟨[(Value.int .i64 ((s60.l : Nat) : Int))]⟩ w62 fun e63 w64 =>
        ∃ s65 : Slc, e63 = .returned (Slc.v s65) ∧
        appendS 1 5 [(Value.int .u8 (0 : Int))] w64 (⟨(some (⟨r61, 0, none⟩ : Addr)), 1, 1⟩ : Slc) (.slc s65) fun s66 w67 =>
        ∃ (I68 : (Slc) → (Int) → World → Prop) (mu69 : (Slc) → (Int) → World → Nat), I68 (s66) ((0 : Int)) w67 ∧ (
        ∀ out70 : Slc, ∀ i71 : Int, ∀ w72 : World, I68 out70 i71 w72 → ∀ u73 u74 u75 u76 u77 u78 u79 u80 u81 u82 u83 u84 u85 u86 u87 u88 u89 u90 u91 u92 u93 u94 u95 u96 u97 u98 u99 : Value,
          BIf (decide (i71 < ((backs13.l : Nat) : Int))) (
            needSome backs13.p fun a100 =>
            0 ≤ i71 ∧ i71 < ((backs13.l : Nat) : Int) ∧
            ∃ n101 : Int, ∃ s102 : Slc, rowAt w72 (Addr.add a100 ((Int.toNat i71) * 2)) 0 [(Value.int .i64 n101), (Slc.v s102)] ∧
            newS w72 (.cells ⟨[(Value.int .i64 (0 : Int)), (Slc.v (⟨none, 0, 0⟩ : Slc))]⟩ 46) fun r103 w104 =>
            canW w104 (⟨r103, 0, none⟩ : Addr) 2 ∧ ∀ w105 : World, w105 = setCells w104 (⟨r103, 0, none⟩ : Addr) 0 [(Value.int .i64 n101), (Slc.v s102)] →
            ∃ n106 : Int, World.cell? (World.drew w105) (⟨r103, 0, none⟩ : Addr) = some (Value.int .i64 n106) ∧
            needSome s60.p fun a107 =>
            0 ≤ i71 ∧ i71 < ((s60.l : Nat) : Int) ∧
            ∃ n108 : Int, World.cell? (World.drew w105) (Addr.add a107 ((Int.toNat i71) * 1)) = some (Value.int .i64 n108) ∧
            BIf (!decide (n106 = n108)) (
              K (Value.tuple ⟨[(Slc.v (⟨none, 0, 0⟩ : Slc)), (Value.int .i64 (4 : Int))]⟩) (World.drew w105)) (
              ∃ s109 : Slc, World.cell? (World.drew w105) (⟨r103, 1, none⟩ : Addr) = some (Slc.v s109) ∧
              Calls Tryd.prog fn_tidewaterref06_falls ⟨[(Slc.v s109)]⟩ (World.drew w105) fun e110 w111 =>
              ∃ b112 : Bool, e110 = .returned (Value.bool b112) ∧
              BIf (!b112) (
                K (Value.tuple ⟨[(Slc.v (⟨none, 0, 0⟩ : Slc)), (Value.int .i64 (4 : Int))]⟩) w111) (
                ∃ s113 : Slc, World.cell? w111 (⟨r103, 1, none⟩ : Addr) = some (Slc.v s113) ∧
                Calls Tryd.prog fn_tidewaterref04_Nums ⟨[(Slc.v s113)]⟩ w111 fun e114 w115 =>
                ∃ s116 : Slc, e114 = .returned (Slc.v s116) ∧
                appendS 1 5 [(Value.int .u8 (0 : Int))] w115 out70 (.slc s116) fun s117 w118 =>
                inR .i64 (i71 + (1 : Int)) ∧
                (I68 (s117) ((i71 + (1 : Int))) w118 ∧ mu69 (s117) ((i71 + (1 : Int))) w118 < mu69 out70 i71 w72)))) (
            ∃ t119 : List UInt8, bytesAt w72 s45 t119 ∧
            Calls Tryd.prog fn_tidewaterref04_Text ⟨[(strV t119)]⟩ w72 fun e120 w121 =>
            ∃ s122 : Slc, e120 = .returned (Slc.v s122) ∧
            appendS 1 5 [(Value.int .u8 (0 : Int))] w121 out70 (.slc s122) fun s123 w124 =>
            K (Value.tuple ⟨[(Slc.v s123), (Value.int .i64 (0 : Int))]⟩) w124)))))

theorem tidewaterref06_Bytes_eq (e1 : Int) (e2 : Int) (e3 : Int) (e4 : Int) (e5 : Int) (e6 : Int) (e7 : Slc) (e8 : List UInt8) (e9 : Int) (e10 : Int) (e11 : Int) (e12 : Slc) (backs13 : Slc) (w : World) (K : Value → World → Prop) : tidewaterref06_Bytes e1 e2 e3 e4 e5 e6 e7 e8 e9 e10 e11 e12 backs13 w K = denF Tryd.prog callB Tryd.f10 (.two .none (.two .none (.two .none (.two .none (.two .none (.two .none (.two .none (.two (.two .none (.one (.loop [(8, Sh.slc), (33, (Sh.int .i64))] [4, 5, 9, 10, 34, 35, 36, 37, 38, 39, 40, 41, 42, 43, 44, 45, 46, 47, 48, 49, 50, 51, 52, 53, 54, 55, 56] .none))) .none)))))))) [(Value.agg ⟨[(Value.int .i64 e1), (Value.int .i64 e2), (Value.int .i64 e3), (Value.int .i64 e4), (Value.int .i64 e5), (Value.int .i64 e6), (Slc.v e7), (strV e8), (Value.int .i64 e9), (Value.int .i64 e10), (Value.int .i64 e11), (Slc.v e12)]⟩), (Slc.v backs13)] w K := by kernel_rfl
theorem tidewaterref06_Bytes_ok (e1 : Int) (e2 : Int) (e3 : Int) (e4 : Int) (e5 : Int) (e6 : Int) (e7 : Slc) (e8 : List UInt8) (e9 : Int) (e10 : Int) (e11 : Int) (e12 : Slc) (backs13 : Slc) {w : World} {R : Ending → World → Prop} (h : tidewaterref06_Bytes e1 e2 e3 e4 e5 e6 e7 e8 e9 e10 e11 e12 backs13 w fun v w' => R (.returned v) w') : Calls Tryd.prog fn_tidewaterref06_Bytes ⟨[(Value.agg ⟨[(Value.int .i64 e1), (Value.int .i64 e2), (Value.int .i64 e3), (Value.int .i64 e4), (Value.int .i64 e5), (Value.int .i64 e6), (Slc.v e7), (strV e8), (Value.int .i64 e9), (Value.int .i64 e10), (Value.int .i64 e11), (Slc.v e12)]⟩), (Slc.v backs13)]⟩ w R :=
  calls_of_den callB_ok mixed Tryd.func10 (tidewaterref06_Bytes_eq e1 e2 e3 e4 e5 e6 e7 e8 e9 e10 e11 e12 backs13 w _ ▸ h)

/-- tidewater/tidewaterref06.SameBacks -/
def tidewaterref06_SameBacks (a1 : Slc) (b2 : Slc) (w : World) (K : Value → World → Prop) : Prop :=
  BIf (!decide (((a1.l : Nat) : Int) = ((b2.l : Nat) : Int))) (
    K (Value.bool false) w) (
    ∃ (I3 : (Int) → World → Prop) (mu4 : (Int) → World → Nat), I3 ((0 : Int)) w ∧ (
    ∀ i5 : Int, ∀ w6 : World, I3 i5 w6 → ∀ u7 u8 u9 u10 u11 u12 u13 u14 u15 u16 u17 u18 u19 u20 u21 u22 u23 u24 u25 u26 u27 u28 u29 u30 u31 u32 u33 u34 u35 u36 : Value,
      BIf (decide (i5 < ((a1.l : Nat) : Int))) (
        needSome a1.p fun a37 =>
        0 ≤ i5 ∧ i5 < ((a1.l : Nat) : Int) ∧
        ∃ n38 : Int, World.cell? (World.drew w6) (Addr.add a37 ((Int.toNat i5) * 2)) = some (Value.int .i64 n38) ∧
        needSome b2.p fun a39 =>
        0 ≤ i5 ∧ i5 < ((b2.l : Nat) : Int) ∧
        ∃ n40 : Int, World.cell? (World.drew w6) (Addr.add a39 ((Int.toNat i5) * 2)) = some (Value.int .i64 n40) ∧
        BIf (!decide (n38 = n40)) (
          K (Value.bool false) (World.drew w6)) (
          needSome a1.p fun a41 =>
          0 ≤ i5 ∧ i5 < ((a1.l : Nat) : Int) ∧
          ∃ s42 : Slc, World.cell? (World.drew w6) ((Addr.add a41 ((Int.toNat i5) * 2)).add 1) = some (Slc.v s42) ∧
          needSome b2.p fun a43 =>
          0 ≤ i5 ∧ i5 < ((b2.l : Nat) : Int) ∧
          ∃ s44 : Slc, World.cell? (World.drew w6) ((Addr.add a43 ((Int.toNat i5) * 2)).add 1) = some (Slc.v s44) ∧
          Calls Tryd.prog fn_tidewaternum_SameInts ⟨[(Slc.v s42), (Slc.v s44)]⟩ (World.drew w6) fun e45 w46 =>
          ∃ b47 : Bool, e45 = .returned (Value.bool b47) ∧
          BIf (!b47) (
            K (Value.bool false) w46) (
            inR .i64 (i5 + (1 : Int)) ∧
            (I3 ((i5 + (1 : Int))) w46 ∧ mu4 ((i5 + (1 : Int))) w46 < mu4 i5 w6)))) (
        K (Value.bool true) w6)))

theorem tidewaterref06_SameBacks_eq (a1 : Slc) (b2 : Slc) (w : World) (K : Value → World → Prop) : tidewaterref06_SameBacks a1 b2 w K = denF Tryd.prog callB Tryd.f13 (.two .none (.two .none (.two (.two .none (.one (.loop [(13, (Sh.int .i64))] [4, 5, 14, 15, 16, 17, 18, 19, 20, 21, 22, 23, 24, 25, 26, 27, 28, 29, 30, 31, 32, 33, 34, 35, 36, 37, 38, 39, 40, 41] .none))) .none))) [(Slc.v a1), (Slc.v b2)] w K := by kernel_rfl
theorem tidewaterref06_SameBacks_ok (a1 : Slc) (b2 : Slc) {w : World} {R : Ending → World → Prop} (h : tidewaterref06_SameBacks a1 b2 w fun v w' => R (.returned v) w') : Calls Tryd.prog fn_tidewaterref06_SameBacks ⟨[(Slc.v a1), (Slc.v b2)]⟩ w R :=
  calls_of_den callB_ok mixed Tryd.func13 (tidewaterref06_SameBacks_eq a1 b2 w _ ▸ h)

/-- tidewater/tidewaterlaw06.alive -/
def tidewaterlaw06_alive  (w : World) (K : Value → World → Prop) : Prop :=
  Calls Tryd.prog fn_page_Junk ⟨[]⟩ w fun e1 w2 =>
  ∃ s3 : Slc, e1 = .returned (Slc.v s3) ∧
  Calls Tryd.prog fn_page_Read ⟨[(Slc.v s3)]⟩ w2 fun e4 w5 =>
  ∃ x6 : Int, ∃ x7 : Int, ∃ x8 : Int, ∃ x9 : Int, ∃ x10 : Int, ∃ x11 : Int, ∃ x12 : Slc, ∃ x13 : List UInt8, ∃ x14 : Int, ∃ x15 : Int, ∃ x16 : Int, ∃ x17 : Slc, ∃ s18 : Slc, ∃ e19 : Value, e4 = .returned (Value.tuple ⟨[(Value.agg ⟨[(Value.int .i64 x6), (Value.int .i64 x7), (Value.int .i64 x8), (Value.int .i64 x9), (Value.int .i64 x10), (Value.int .i64 x11), (Slc.v x12), (strV x13), (Value.int .i64 x14), (Value.int .i64 x15), (Value.int .i64 x16), (Slc.v x17)]⟩), (Slc.v s18), e19]⟩) ∧
  newS w5 (.cells ⟨[(Value.int .i64 (0 : Int)), (Value.int .i64 (0 : Int)), (Value.int .i64 (0 : Int)), (Value.int .i64 (0 : Int)), (Value.int .i64 (0 : Int)), (Value.int .i64 (0 : Int)), (Slc.v (⟨none, 0, 0⟩ : Slc)), (strV ([] : List UInt8)), (Value.int .i64 (0 : Int)), (Value.int .i64 (0 : Int)), (Value.int .i64 (0 : Int)), (Slc.v (⟨none, 0, 0⟩ : Slc))]⟩ 25) fun r20 w21 =>
  canW w21 (⟨r20, 0, none⟩ : Addr) 12 ∧ ∀ w22 : World, w22 = setCells w21 (⟨r20, 0, none⟩ : Addr) 0 [(Value.int .i64 x6), (Value.int .i64 x7), (Value.int .i64 x8), (Value.int .i64 x9), (Value.int .i64 x10), (Value.int .i64 x11), (Slc.v x12), (strV x13), (Value.int .i64 x14), (Value.int .i64 x15), (Value.int .i64 x16), (Slc.v x17)] →
  Calls Tryd.prog fn_page_Junk ⟨[]⟩ w22 fun e23 w24 =>
  ∃ s25 : Slc, e23 = .returned (Slc.v s25) ∧
  Calls Tryd.prog fn_page_IsJunk ⟨[(Slc.v s25)]⟩ w24 fun e26 w27 =>
  ∃ b28 : Bool, e26 = .returned (Value.bool b28) ∧
  BIf b28 (
    Calls Tryd.prog fn_tidewaternum_Num ⟨[e19]⟩ w27 fun e29 w30 =>
    ∃ n31 : Int, e29 = .returned (Value.int .i64 n31) ∧
    K (Value.bool (decide (n31 = (2 : Int)))) w30) (
    K (Value.bool false) w27)

theorem tidewaterlaw06_alive_eq  (w : World) (K : Value → World → Prop) : tidewaterlaw06_alive  w K = denF Tryd.prog callB Tryd.f5 .none [] w K := by kernel_rfl
theorem tidewaterlaw06_alive_ok  {w : World} {R : Ending → World → Prop} (h : tidewaterlaw06_alive  w fun v w' => R (.returned v) w') : Calls Tryd.prog fn_tidewaterlaw06_alive ⟨[]⟩ w R :=
  calls_of_den callB_ok mixed Tryd.func5 (tidewaterlaw06_alive_eq  w _ ▸ h)

/-- tidewater/tidewaterlaw06.long -/
def tidewaterlaw06_long (e1 : Int) (e2 : Int) (e3 : Int) (e4 : Int) (e5 : Int) (e6 : Int) (e7 : Slc) (e8 : List UInt8) (e9 : Int) (e10 : Int) (e11 : Int) (e12 : Slc) (backs13 : Slc) (w : World) (K : Value → World → Prop) : Prop :=
  newS w (.cells ⟨[(Value.int .i64 e1), (Value.int .i64 e2), (Value.int .i64 e3), (Value.int .i64 e4), (Value.int .i64 e5), (Value.int .i64 e6), (Slc.v e7), (strV e8), (Value.int .i64 e9), (Value.int .i64 e10), (Value.int .i64 e11), (Slc.v e12)]⟩ 25) fun r14 w15 =>
  ∃ J16 : World → Prop,
  (
    ∃ s17 : Slc, World.cell? w15 (⟨r14, 6, none⟩ : Addr) = some (Slc.v s17) ∧
    BIf (decide ((20 : Int) < ((s17.l : Nat) : Int))) (
      K (Value.bool true) w15) (
      ∃ t18 : List UInt8, World.cell? w15 (⟨r14, 7, none⟩ : Addr) = some (strV t18) ∧
      BIf (decide ((300 : Int) < (((List.length t18) : Nat) : Int))) (
        K (Value.bool true) w15) (
        ∃ s19 : Slc, World.cell? w15 (⟨r14, 11, none⟩ : Addr) = some (Slc.v s19) ∧
        BIf (decide ((600 : Int) < ((s19.l : Nat) : Int))) (
          K (Value.bool true) w15) (
          BIf (decide ((10 : Int) < ((backs13.l : Nat) : Int))) (
            K (Value.bool true) w15) (
            J16 w15))))) ∧ (
  ∀ w20 : World, J16 w20 → ∀ u21 u22 u23 u24 u25 u26 u27 u28 u29 u30 u31 u32 u33 u34 u35 u36 u37 u38 u39 u40 u41 u42 : Value,
    ∃ s43 : Slc, World.cell? w20 (⟨r14, 6, none⟩ : Addr) = some (Slc.v s43) ∧
    ∃ (I44 : (Int) → World → Prop) (mu45 : (Int) → World → Nat), I44 ((0 : Int)) w20 ∧ (
    ∀ i46 : Int, ∀ w47 : World, I44 i46 w47 → ∀ u48 u49 u50 u51 u52 u53 u54 u55 u56 u57 u58 u59 u60 u61 u62 u63 u64 u65 u66 u67 u68 u69 : Value,
      BIf (decide (i46 < ((s43.l : Nat) : Int))) (
        needSome s43.p fun a70 =>
        0 ≤ i46 ∧ i46 < ((s43.l : Nat) : Int) ∧
        ∃ n71 : Int, ∃ t72 : List UInt8, ∃ t73 : List UInt8, ∃ t74 : List UInt8, ∃ n75 : Int, rowAt w47 (Addr.add a70 ((Int.toNat i46) * 5)) 0 [(Value.int .i64 n71), (strV t72), (strV t73), (strV t74), (Value.int .i64 n75)] ∧
        newS w47 (.cells ⟨[(Value.int .i64 (0 : Int)), (strV ([] : List UInt8)), (strV ([] : List UInt8)), (strV ([] : List UInt8)), (Value.int .i64 (0 : Int))]⟩ 50) fun r76 w77 =>
        canW w77 (⟨r76, 0, none⟩ : Addr) 5 ∧ ∀ w78 : World, w78 = setCells w77 (⟨r76, 0, none⟩ : Addr) 0 [(Value.int .i64 n71), (strV t72), (strV t73), (strV t74), (Value.int .i64 n75)] →
        ∃ t79 : List UInt8, World.cell? w78 (⟨r76, 1, none⟩ : Addr) = some (strV t79) ∧
        BIf (decide ((300 : Int) < (((List.length t79) : Nat) : Int))) (
          K (Value.bool true) w78) (
          ∃ t80 : List UInt8, World.cell? w78 (⟨r76, 2, none⟩ : Addr) = some (strV t80) ∧
          BIf (decide ((300 : Int) < (((List.length t80) : Nat) : Int))) (
            K (Value.bool true) w78) (
            ∃ t81 : List UInt8, World.cell? w78 (⟨r76, 3, none⟩ : Addr) = some (strV t81) ∧
            BIf (decide ((300 : Int) < (((List.length t81) : Nat) : Int))) (
              K (Value.bool true) w78) (
              inR .i64 (i46 + (1 : Int)) ∧
              (I44 ((i46 + (1 : Int))) w78 ∧ mu45 ((i46 + (1 : Int))) w78 < mu45 i46 w47))))) (
        ∃ (I82 : (Int) → World → Prop) (mu83 : (Int) → World → Nat), I82 ((0 : Int)) w47 ∧ (
        ∀ i84 : Int, ∀ w85 : World, I82 i84 w85 → ∀ u86 u87 u88 u89 u90 u91 u92 u93 u94 u95 : Value,
          BIf (decide (i84 < ((backs13.l : Nat) : Int))) (
            needSome backs13.p fun a96 =>
            0 ≤ i84 ∧ i84 < ((backs13.l : Nat) : Int) ∧
            ∃ n97 : Int, ∃ s98 : Slc, rowAt w85 (Addr.add a96 ((Int.toNat i84) * 2)) 0 [(Value.int .i64 n97), (Slc.v s98)] ∧
            newS w85 (.cells ⟨[(Value.int .i64 (0 : Int)), (Slc.v (⟨none, 0, 0⟩ : Slc))]⟩ 46) fun r99 w100 =>
            canW w100 (⟨r99, 0, none⟩ : Addr) 2 ∧ ∀ w101 : World, w101 = setCells w100 (⟨r99, 0, none⟩ : Addr) 0 [(Value.int .i64 n97), (Slc.v s98)] →
            ∃ s102 : Slc, World.cell? w101 (⟨r99, 1, none⟩ : Addr) = some (Slc.v s102) ∧
            BIf (decide ((20 : Int) < ((s102.l : Nat) : Int))) (
              K (Value.bool true) w101) (
              inR .i64 (i84 + (1 : Int)) ∧
              (I82 ((i84 + (1 : Int))) w101 ∧ mu83 ((i84 + (1 : Int))) w101 < mu83 i84 w85))) (
            K (Value.bool false) w85)))))

theorem tidewaterlaw06_long_eq (e1 : Int) (e2 : Int) (e3 : Int) (e4 : Int) (e5 : Int) (e6 : Int) (e7 : Slc) (e8 : List UInt8) (e9 : Int) (e10 : Int) (e11 : Int) (e12 : Slc) (backs13 : Slc) (w : World) (K : Value → World → Prop) : tidewaterlaw06_long e1 e2 e3 e4 e5 e6 e7 e8 e9 e10 e11 e12 backs13 w K = denF Tryd.prog callB Tryd.f6 (.two .none (.cut [] [4, 9, 10, 11, 12, 13, 14, 15, 16, 17, 18, 19, 20, 21, 22, 23, 24, 25, 26, 27, 28, 29] .none (.two (.two .none (.one (.loop [(33, (Sh.int .i64))] [4, 6, 34, 35, 36, 37, 38, 39, 40, 41, 42, 43, 44, 45, 46, 47, 48, 49, 50, 51, 52, 53] .none))) (.two (.two .none (.one (.loop [(56, (Sh.int .i64))] [4, 8, 57, 58, 59, 60, 61, 62, 63, 64] .none))) .none)))) [(Value.agg ⟨[(Value.int .i64 e1), (Value.int .i64 e2), (Value.int .i64 e3), (Value.int .i64 e4), (Value.int .i64 e5), (Value.int .i64 e6), (Slc.v e7), (strV e8), (Value.int .i64 e9), (Value.int .i64 e10), (Value.int .i64 e11), (Slc.v e12)]⟩), (Slc.v backs13)] w K := by kernel_rfl
theorem tidewaterlaw06_long_ok (e1 : Int) (e2 : Int) (e3 : Int) (e4 : Int) (e5 : Int) (e6 : Int) (e7 : Slc) (e8 : List UInt8) (e9 : Int) (e10 : Int) (e11 : Int) (e12 : Slc) (backs13 : Slc) {w : World} {R : Ending → World → Prop} (h : tidewaterlaw06_long e1 e2 e3 e4 e5 e6 e7 e8 e9 e10 e11 e12 backs13 w fun v w' => R (.returned v) w') : Calls Tryd.prog fn_tidewaterlaw06_long ⟨[(Value.agg ⟨[(Value.int .i64 e1), (Value.int .i64 e2), (Value.int .i64 e3), (Value.int .i64 e4), (Value.int .i64 e5), (Value.int .i64 e6), (Slc.v e7), (strV e8), (Value.int .i64 e9), (Value.int .i64 e10), (Value.int .i64 e11), (Slc.v e12)]⟩), (Slc.v backs13)]⟩ w R :=
  calls_of_den callB_ok mixed Tryd.func6 (tidewaterlaw06_long_eq e1 e2 e3 e4 e5 e6 e7 e8 e9 e10 e11 e12 backs13 w _ ▸ h)

/-- tidewater/tidewaterlaw06.PageJunk -/
def tidewaterlaw06_PageJunk (b1 : Slc) (e2 : Int) (e3 : Int) (e4 : Int) (e5 : Int) (e6 : Int) (e7 : Int) (e8 : Slc) (e9 : List UInt8) (e10 : Int) (e11 : Int) (e12 : Int) (e13 : Slc) (backs14 : Slc) (w : World) (K : Value → World → Prop) : Prop :=
  newS w (.cells ⟨[(Value.int .i64 e2), (Value.int .i64 e3), (Value.int .i64 e4), (Value.int .i64 e5), (Value.int .i64 e6), (Value.int .i64 e7), (Slc.v e8), (strV e9), (Value.int .i64 e10), (Value.int .i64 e11), (Value.int .i64 e12), (Slc.v e13)]⟩ 25) fun r15 w16 =>
  Calls Tryd.prog fn_tidewaterlaw06_alive ⟨[]⟩ w16 fun e17 w18 =>
  ∃ b19 : Bool, e17 = .returned (Value.bool b19) ∧
  BIf (!b19) (
    K (Value.bool false) w18) (
    ∃ J20 : World → Prop,
    (
      BIf (decide ((300 : Int) < ((b1.l : Nat) : Int))) (
        K (Value.bool true) w18) (
        ∃ n21 : Int, ∃ n22 : Int, ∃ n23 : Int, ∃ n24 : Int, ∃ n25 : Int, ∃ n26 : Int, ∃ s27 : Slc, ∃ t28 : List UInt8, ∃ n29 : Int, ∃ n30 : Int, ∃ n31 : Int, ∃ s32 : Slc, rowAt w18 (⟨r15, 0, none⟩ : Addr) 0 [(Value.int .i64 n21), (Value.int .i64 n22), (Value.int .i64 n23), (Value.int .i64 n24), (Value.int .i64 n25), (Value.int .i64 n26), (Slc.v s27), (strV t28), (Value.int .i64 n29), (Value.int .i64 n30), (Value.int .i64 n31), (Slc.v s32)] ∧
        Calls Tryd.prog fn_tidewaterlaw06_long ⟨[(Value.agg ⟨[(Value.int .i64 n21), (Value.int .i64 n22), (Value.int .i64 n23), (Value.int .i64 n24), (Value.int .i64 n25), (Value.int .i64 n26), (Slc.v s27), (strV t28), (Value.int .i64 n29), (Value.int .i64 n30), (Value.int .i64 n31), (Slc.v s32)]⟩), (Slc.v backs14)]⟩ w18 fun e33 w34 =>
        ∃ b35 : Bool, e33 = .returned (Value.bool b35) ∧
        BIf b35 (
          K (Value.bool true) w34) (
          J20 w34))) ∧ (
    ∀ w36 : World, J20 w36 → ∀ u37 u38 u39 u40 u41 u42 u43 u44 u45 : Value,
      Calls Tryd.prog fn_page_IsJunk ⟨[(Slc.v b1)]⟩ w36 fun e46 w47 =>
      ∃ b48 : Bool, e46 = .returned (Value.bool b48) ∧
      BIf b48 (
        Calls Tryd.prog fn_page_Read ⟨[(Slc.v b1)]⟩ w47 fun e49 w50 =>
        ∃ x51 : Int, ∃ x52 : Int, ∃ x53 : Int, ∃ x54 : Int, ∃ x55 : Int, ∃ x56 : Int, ∃ x57 : Slc, ∃ x58 : List UInt8, ∃ x59 : Int, ∃ x60 : Int, ∃ x61 : Int, ∃ x62 : Slc, ∃ s63 : Slc, ∃ e64 : Value, e49 = .returned (Value.tuple ⟨[(Value.agg ⟨[(Value.int .i64 x51), (Value.int .i64 x52), (Value.int .i64 x53), (Value.int .i64 x54), (Value.int .i64 x55), (Value.int .i64 x56), (Slc.v x57), (strV x58), (Value.int .i64 x59), (Value.int .i64 x60), (Value.int .i64 x61), (Slc.v x62)]⟩), (Slc.v s63), e64]⟩) ∧
        newS w50 (.cells ⟨[(Value.int .i64 (0 : Int)), (Value.int .i64 (0 : Int)), (Value.int .i64 (0 : Int)), (Value.int .i64 (0 : Int)), (Value.int .i64 (0 : Int)), (Value.int .i64 (0 : Int)), (Slc.v (⟨none, 0, 0⟩ : Slc)), (strV ([] : List UInt8)), (Value.int .i64 (0 : Int)), (Value.int .i64 (0 : Int)), (Value.int .i64 (0 : Int)), (Slc.v (⟨none, 0, 0⟩ : Slc))]⟩ 25) fun r65 w66 =>
        canW w66 (⟨r65, 0, none⟩ : Addr) 12 ∧ ∀ w67 : World, w67 = setCells w66 (⟨r65, 0, none⟩ : Addr) 0 [(Value.int .i64 x51), (Value.int .i64 x52), (Value.int .i64 x53), (Value.int .i64 x54), (Value.int .i64 x55), (Value.int .i64 x56), (Slc.v x57), (strV x58), (Value.int .i64 x59), (Value.int .i64 x60), (Value.int .i64 x61), (Slc.v x62)] →
        isI e64 ∧
        BIf (!isNilI e64) (
          K (Value.bool (decide (((b1.l : Nat) : Int) = (1 : Int)))) w67) (
          K (Value.bool false) w67)) (
        ∃ n68 : Int, ∃ n69 : Int, ∃ n70 : Int, ∃ n71 : Int, ∃ n72 : Int, ∃ n73 : Int, ∃ s74 : Slc, ∃ t75 : List UInt8, ∃ n76 : Int, ∃ n77 : Int, ∃ n78 : Int, ∃ s79 : Slc, rowAt w47 (⟨r15, 0, none⟩ : Addr) 0 [(Value.int .i64 n68), (Value.int .i64 n69), (Value.int .i64 n70), (Value.int .i64 n71), (Value.int .i64 n72), (Value.int .i64 n73), (Slc.v s74), (strV t75), (Value.int .i64 n76), (Value.int .i64 n77), (Value.int .i64 n78), (Slc.v s79)] ∧
        Calls Tryd.prog fn_page_Bytes ⟨[(Value.agg ⟨[(Value.int .i64 n68), (Value.int .i64 n69), (Value.int .i64 n70), (Value.int .i64 n71), (Value.int .i64 n72), (Value.int .i64 n73), (Slc.v s74), (strV t75), (Value.int .i64 n76), (Value.int .i64 n77), (Value.int .i64 n78), (Slc.v s79)]⟩), (Slc.v backs14)]⟩ w47 fun e80 w81 =>
        ∃ s82 : Slc, ∃ e83 : Value, e80 = .returned (Value.tuple ⟨[(Slc.v s82), e83]⟩) ∧
        isI e83 ∧
        BIf (!isNilI e83) (
          K (Value.bool (decide (((s82.l : Nat) : Int) = (0 : Int)))) w81) (
          needSome s82.p fun a84 =>
          0 ≤ (0 : Int) ∧ (0 : Int) < ((s82.l : Nat) : Int) ∧
          ∃ n85 : Int, World.cell? w81 a84 = some (Value.int .u8 n85) ∧
          0 ≤ n85 ∧ 0 ≤ (3 : Int) ∧ inR .u8 n85 ∧ inR .u8 (3 : Int) ∧
          needSome s82.p fun a86 =>
          0 ≤ (0 : Int) ∧ (0 : Int) < ((s82.l : Nat) : Int) ∧
          canW w81 a86 1 ∧ ∀ w87 : World, w87 = World.setCell w81 a86 (Value.int .u8 (bitsI .xor n85 (3 : Int))) →
          Calls Tryd.prog fn_page_Read ⟨[(Slc.v s82)]⟩ w87 fun e88 w89 =>
          ∃ x90 : Int, ∃ x91 : Int, ∃ x92 : Int, ∃ x93 : Int, ∃ x94 : Int, ∃ x95 : Int, ∃ x96 : Slc, ∃ x97 : List UInt8, ∃ x98 : Int, ∃ x99 : Int, ∃ x100 : Int, ∃ x101 : Slc, ∃ s102 : Slc, ∃ e103 : Value, e88 = .returned (Value.tuple ⟨[(Value.agg ⟨[(Value.int .i64 x90), (Value.int .i64 x91), (Value.int .i64 x92), (Value.int .i64 x93), (Value.int .i64 x94), (Value.int .i64 x95), (Slc.v x96), (strV x97), (Value.int .i64 x98), (Value.int .i64 x99), (Value.int .i64 x100), (Slc.v x101)]⟩), (Slc.v s102), e103]⟩) ∧
          isI e103 ∧
          BIf (!isNilI e103) (
            Calls Tryd.prog fn_page_IsJunk ⟨[(Slc.v s82)]⟩ w89 fun e104 w105 =>
            ∃ b106 : Bool, e104 = .returned (Value.bool b106) ∧
            K (Value.bool (!b106)) w105) (
            K (Value.bool false) w89)))))

theorem tidewaterlaw06_PageJunk_eq (b1 : Slc) (e2 : Int) (e3 : Int) (e4 : Int) (e5 : Int) (e6 : Int) (e7 : Int) (e8 : Slc) (e9 : List UInt8) (e10 : Int) (e11 : Int) (e12 : Int) (e13 : Slc) (backs14 : Slc) (w : World) (K : Value → World → Prop) : tidewaterlaw06_PageJunk b1 e2 e3 e4 e5 e6 e7 e8 e9 e10 e11 e12 e13 backs14 w K = denF Tryd.prog callB Tryd.f3 (.two .none (.two .none (.cut [] [6, 14, 15, 16, 17, 18, 19, 20, 21] .none .none))) [(Slc.v b1), (Value.agg ⟨[(Value.int .i64 e2), (Value.int .i64 e3), (Value.int .i64 e4), (Value.int .i64 e5), (Value.int .i64 e6), (Value.int .i64 e7), (Slc.v e8), (strV e9), (Value.int .i64 e10), (Value.int .i64 e11), (Value.int .i64 e12), (Slc.v e13)]⟩), (Slc.v backs14)] w K := by kernel_rfl
theorem tidewaterlaw06_PageJunk_ok (b1 : Slc) (e2 : Int) (e3 : Int) (e4 : Int) (e5 : Int) (e6 : Int) (e7 : Int) (e8 : Slc) (e9 : List UInt8) (e10 : Int) (e11 : Int) (e12 : Int) (e13 : Slc) (backs14 : Slc) {w : World} {R : Ending → World → Prop} (h : tidewaterlaw06_PageJunk b1 e2 e3 e4 e5 e6 e7 e8 e9 e10 e11 e12 e13 backs14 w fun v w' => R (.returned v) w') : Calls Tryd.prog fn_tidewaterlaw06_PageJunk ⟨[(Slc.v b1), (Value.agg ⟨[(Value.int .i64 e2), (Value.int .i64 e3), (Value.int .i64 e4), (Value.int .i64 e5), (Value.int .i64 e6), (Value.int .i64 e7), (Slc.v e8), (strV e9), (Value.int .i64 e10), (Value.int .i64 e11), (Value.int .i64 e12), (Slc.v e13)]⟩), (Slc.v backs14)]⟩ w R :=
  calls_of_den callB_ok mixed Tryd.func3 (tidewaterlaw06_PageJunk_eq b1 e2 e3 e4 e5 e6 e7 e8 e9 e10 e11 e12 e13 backs14 w _ ▸ h)

/-- tidewater/tidewaterlaw06.PageWrites -/
def tidewaterlaw06_PageWrites (e1 : Int) (e2 : Int) (e3 : Int) (e4 : Int) (e5 : Int) (e6 : Int) (e7 : Slc) (e8 : List UInt8) (e9 : Int) (e10 : Int) (e11 : Int) (e12 : Slc) (backs13 : Slc) (w : World) (K : Value → World → Prop) : Prop :=
  newS w (.cells ⟨[(Value.int .i64 e1), (Value.int .i64 e2), (Value.int .i64 e3), (Value.int .i64 e4), (Value.int .i64 e5), (Value.int .i64 e6), (Slc.v e7), (strV e8), (Value.int .i64 e9), (Value.int .i64 e10), (Value.int .i64 e11), (Slc.v e12)]⟩ 25) fun r14 w15 =>
  Calls Tryd.prog fn_tidewaterlaw06_alive ⟨[]⟩ w15 fun e16 w17 =>
  ∃ b18 : Bool, e16 = .returned (Value.bool b18) ∧
  BIf (!b18) (
    K (Value.bool false) w17) (
    ∃ n19 : Int, ∃ n20 : Int, ∃ n21 : Int, ∃ n22 : Int, ∃ n23 : Int, ∃ n24 : Int, ∃ s25 : Slc, ∃ t26 : List UInt8, ∃ n27 : Int, ∃ n28 : Int, ∃ n29 : Int, ∃ s30 : Slc, rowAt w17 (⟨r14, 0, none⟩ : Addr) 0 [(Value.int .i64 n19), (Value.int .i64 n20), (Value.int .i64 n21), (Value.int .i64 n22), (Value.int .i64 n23), (Value.int .i64 n24), (Slc.v s25), (strV t26), (Value.int .i64 n27), (Value.int .i64 n28), (Value.int .i64 n29), (Slc.v s30)] ∧
    Calls Tryd.prog fn_tidewaterlaw06_long ⟨[(Value.agg ⟨[(Value.int .i64 n19), (Value.int .i64 n20), (Value.int .i64 n21), (Value.int .i64 n22), (Value.int .i64 n23), (Value.int .i64 n24), (Slc.v s25), (strV t26), (Value.int .i64 n27), (Value.int .i64 n28), (Value.int .i64 n29), (Slc.v s30)]⟩), (Slc.v backs13)]⟩ w17 fun e31 w32 =>
    ∃ b33 : Bool, e31 = .returned (Value.bool b33) ∧
    BIf b33 (
      K (Value.bool true) w32) (
      ∃ n34 : Int, ∃ n35 : Int, ∃ n36 : Int, ∃ n37 : Int, ∃ n38 : Int, ∃ n39 : Int, ∃ s40 : Slc, ∃ t41 : List UInt8, ∃ n42 : Int, ∃ n43 : Int, ∃ n44 : Int, ∃ s45 : Slc, rowAt w32 (⟨r14, 0, none⟩ : Addr) 0 [(Value.int .i64 n34), (Value.int .i64 n35), (Value.int .i64 n36), (Value.int .i64 n37), (Value.int .i64 n38), (Value.int .i64 n39), (Slc.v s40), (strV t41), (Value.int .i64 n42), (Value.int .i64 n43), (Value.int .i64 n44), (Slc.v s45)] ∧
      Calls Tryd.prog fn_page_Bytes ⟨[(Value.agg ⟨[(Value.int .i64 n34), (Value.int .i64 n35), (Value.int .i64 n36), (Value.int .i64 n37), (Value.int .i64 n38), (Value.int .i64 n39), (Slc.v s40), (strV t41), (Value.int .i64 n42), (Value.int .i64 n43), (Value.int .i64 n44), (Slc.v s45)]⟩), (Slc.v backs13)]⟩ w32 fun e46 w47 =>
      ∃ s48 : Slc, ∃ e49 : Value, e46 = .returned (Value.tuple ⟨[(Slc.v s48), e49]⟩) ∧
      ∃ n50 : Int, ∃ n51 : Int, ∃ n52 : Int, ∃ n53 : Int, ∃ n54 : Int, ∃ n55 : Int, ∃ s56 : Slc, ∃ t57 : List UInt8, ∃ n58 : Int, ∃ n59 : Int, ∃ n60 : Int, ∃ s61 : Slc, rowAt w47 (⟨r14, 0, none⟩ : Addr) 0 [(Value.int .i64 n50), (Value.int .i64 n51), (Value.int .i64 n52), (Value.int .i64 n53), (Value.int .i64 n54), (Value.int .i64 n55), (Slc.v s56), (strV t57), (Value.int .i64 n58), (Value.int .i64 n59), (Value.int .i64 n60), (Slc.v s61)] ∧
      Calls Tryd.prog fn_tidewaterref06_Bytes ⟨[(Value.agg ⟨[(Value.int .i64 n50), (Value.int .i64 n51), (Value.int .i64 n52), (Value.int .i64 n53), (Value.int .i64 n54), (Value.int .i64 n55), (Slc.v s56), (strV t57), (Value.int .i64 n58), (Value.int .i64 n59), (Value.int .i64 n60), (Slc.v s61)]⟩), (Slc.v backs13)]⟩ w47 fun e62 w63 =>
      ∃ s64 : Slc, ∃ n65 : Int, e62 = .returned (Value.tuple ⟨[(Slc.v s64), (Value.int .i64 n65)]⟩) ∧
      ∃ J66 : World → Prop,
      (
        ∃ t67 : List UInt8, bytesAt w63 s48 t67 ∧
        ∃ t68 : List UInt8, bytesAt w63 s64 t68 ∧
        BIf (!decide (t67 = t68)) (
          K (Value.bool false) w63) (
          Calls Tryd.prog fn_tidewaternum_Num ⟨[e49]⟩ w63 fun e69 w70 =>
          ∃ n71 : Int, e69 = .returned (Value.int .i64 n71) ∧
          BIf (!decide (n71 = n65)) (
            K (Value.bool false) w70) (
            J66 w70))) ∧ (
      ∀ w72 : World, J66 w72 → ∀ u73 u74 u75 u76 u77 u78 u79 u80 u81 u82 u83 u84 : Value,
        BIf (!decide (n65 = (0 : Int))) (
          K (Value.bool true) w72) (
          Calls Tryd.prog fn_page_Read ⟨[(Slc.v s48)]⟩ w72 fun e85 w86 =>
          ∃ x87 : Int, ∃ x88 : Int, ∃ x89 : Int, ∃ x90 : Int, ∃ x91 : Int, ∃ x92 : Int, ∃ x93 : Slc, ∃ x94 : List UInt8, ∃ x95 : Int, ∃ x96 : Int, ∃ x97 : Int, ∃ x98 : Slc, ∃ s99 : Slc, ∃ e100 : Value, e85 = .returned (Value.tuple ⟨[(Value.agg ⟨[(Value.int .i64 x87), (Value.int .i64 x88), (Value.int .i64 x89), (Value.int .i64 x90), (Value.int .i64 x91), (Value.int .i64 x92), (Slc.v x93), (strV x94), (Value.int .i64 x95), (Value.int .i64 x96), (Value.int .i64 x97), (Slc.v x98)]⟩), (Slc.v s99), e100]⟩) ∧
          newS w86 (.cells ⟨[(Value.int .i64 (0 : Int)), (Value.int .i64 (0 : Int)), (Value.int .i64 (0 : Int)), (Value.int .i64 (0 : Int)), (Value.int .i64 (0 : Int)), (Value.int .i64 (0 : Int)), (Slc.v (⟨none, 0, 0⟩ : Slc)), (strV ([] : List UInt8)), (Value.int .i64 (0 : Int)), (Value.int .i64 (0 : Int)), (Value.int .i64 (0 : Int)), (Slc.v (⟨none, 0, 0⟩ : Slc))]⟩ 25) fun r101 w102 =>
          canW w102 (⟨r101, 0, none⟩ : Addr) 12 ∧ ∀ w103 : World, w103 = setCells w102 (⟨r101, 0, none⟩ : Addr) 0 [(Value.int .i64 x87), (Value.int .i64 x88), (Value.int .i64 x89), (Value.int .i64 x90), (Value.int .i64 x91), (Value.int .i64 x92), (Slc.v x93), (strV x94), (Value.int .i64 x95), (Value.int .i64 x96), (Value.int .i64 x97), (Slc.v x98)] →
          ∃ J104 : World → Prop,
          (
            isI e100 ∧
            BIf (!isNilI e100) (
              K (Value.bool false) w103) (
              ∃ n105 : Int, ∃ n106 : Int, ∃ n107 : Int, ∃ n108 : Int, ∃ n109 : Int, ∃ n110 : Int, ∃ s111 : Slc, ∃ t112 : List UInt8, ∃ n113 : Int, ∃ n114 : Int, ∃ n115 : Int, ∃ s116 : Slc, rowAt w103 (⟨r101, 0, none⟩ : Addr) 0 [(Value.int .i64 n105), (Value.int .i64 n106), (Value.int .i64 n107), (Value.int .i64 n108), (Value.int .i64 n109), (Value.int .i64 n110), (Slc.v s111), (strV t112), (Value.int .i64 n113), (Value.int .i64 n114), (Value.int .i64 n115), (Slc.v s116)] ∧
              ∃ n117 : Int, ∃ n118 : Int, ∃ n119 : Int, ∃ n120 : Int, ∃ n121 : Int, ∃ n122 : Int, ∃ s123 : Slc, ∃ t124 : List UInt8, ∃ n125 : Int, ∃ n126 : Int, ∃ n127 : Int, ∃ s128 : Slc, rowAt w103 (⟨r14, 0, none⟩ : Addr) 0 [(Value.int .i64 n117), (Value.int .i64 n118), (Value.int .i64 n119), (Value.int .i64 n120), (Value.int .i64 n121), (Value.int .i64 n122), (Slc.v s123), (strV t124), (Value.int .i64 n125), (Value.int .i64 n126), (Value.int .i64 n127), (Slc.v s128)] ∧
              Calls Tryd.prog fn_tidewaterref05_Same ⟨[(Value.agg ⟨[(Value.int .i64 n105), (Value.int .i64 n106), (Value.int .i64 n107), (Value.int .i64 n108), (Value.int .i64 n109), (Value.int .i64 n110), (Slc.v s111), (strV t112), (Value.int .i64 n113), (Value.int .i64 n114), (Value.int .i64 n115), (Slc.v s116)]⟩), (Value.agg ⟨[(Value.int .i64 n117), (Value.int .i64 n118), (Value.int .i64 n119), (Value.int .i64 n120), (Value.int .i64 n121), (Value.int .i64 n122), (Slc.v s123), (strV t124), (Value.int .i64 n125), (Value.int .i64 n126), (Value.int .i64 n127), (Slc.v s128)]⟩)]⟩ w103 fun e129 w130 =>
              ∃ b131 : Bool, e129 = .returned (Value.bool b131) ∧
              BIf (!b131) (
                K (Value.bool false) w130) (
                Calls Tryd.prog fn_tidewaterref06_SameBacks ⟨[(Slc.v s99), (Slc.v backs13)]⟩ w130 fun e132 w133 =>
                ∃ b134 : Bool, e132 = .returned (Value.bool b134) ∧
                BIf (!b134) (
                  K (Value.bool false) w133) (
                  Calls Tryd.prog fn_page_IsJunk ⟨[(Slc.v s48)]⟩ w133 fun e135 w136 =>
                  ∃ b137 : Bool, e135 = .returned (Value.bool b137) ∧
                  BIf b137 (
                    K (Value.bool false) w136) (
                    BIf (decide ((2048 : Int) < ((s48.l : Nat) : Int))) (
                      K (Value.bool false) w136) (
                      J104 w136)))))) ∧ (
          ∀ w138 : World, J104 w138 → ∀ u139 u140 u141 u142 u143 u144 u145 u146 u147 u148 u149 u150 u151 u152 u153 u154 u155 u156 u157 u158 u159 u160 u161 u162 : Value,
            ∃ (I163 : (Int) → World → Prop) (mu164 : (Int) → World → Nat), I163 ((0 : Int)) w138 ∧ (
            ∀ i165 : Int, ∀ w166 : World, I163 i165 w166 → ∀ u167 u168 u169 u170 u171 u172 u173 u174 u175 u176 u177 u178 u179 u180 u181 u182 u183 u184 u185 u186 u187 u188 u189 u190 u191 u192 u193 u194 u195 u196 u197 u198 u199 u200 u201 u202 u203 u204 u205 : Value,
              BIf (decide (i165 < (14 : Int))) (
                Calls Tryd.prog fn_page_Backs ⟨[(Slc.v s48), (Value.int .i64 i165)]⟩ w166 fun e206 w207 =>
                ∃ s208 : Slc, ∃ b209 : Bool, e206 = .returned (Value.tuple ⟨[(Slc.v s208), (Value.bool b209)]⟩) ∧
                newS w207 (.cells ⟨[]⟩ 3) fun r210 w211 =>
                ∃ (I212 : (Slc) → (Bool) → (Int) → World → Prop) (mu213 : (Slc) → (Bool) → (Int) → World → Nat), I212 ((⟨(some (⟨r210, 0, none⟩ : Addr)), 0, 0⟩ : Slc)) (false) ((0 : Int)) w211 ∧ (
                ∀ want214 : Slc, ∀ has215 : Bool, ∀ i216 : Int, ∀ w217 : World, I212 want214 has215 i216 w217 → ∀ u218 u219 u220 u221 u222 u223 u224 u225 u226 u227 u228 : Value,
                  BIf (decide (i216 < ((backs13.l : Nat) : Int))) (
                    needSome backs13.p fun a229 =>
                    0 ≤ i216 ∧ i216 < ((backs13.l : Nat) : Int) ∧
                    ∃ n230 : Int, ∃ s231 : Slc, rowAt w217 (Addr.add a229 ((Int.toNat i216) * 2)) 0 [(Value.int .i64 n230), (Slc.v s231)] ∧
                    newS w217 (.cells ⟨[(Value.int .i64 (0 : Int)), (Slc.v (⟨none, 0, 0⟩ : Slc))]⟩ 46) fun r232 w233 =>
                    canW w233 (⟨r232, 0, none⟩ : Addr) 2 ∧ ∀ w234 : World, w234 = setCells w233 (⟨r232, 0, none⟩ : Addr) 0 [(Value.int .i64 n230), (Slc.v s231)] →
                    ∃ n235 : Int, World.cell? w234 (⟨r232, 0, none⟩ : Addr) = some (Value.int .i64 n235) ∧
                    BIf (decide (n235 = i165)) (
                      ∃ s236 : Slc, World.cell? w234 (⟨r232, 1, none⟩ : Addr) = some (Slc.v s236) ∧
                      inR .i64 (i216 + (1 : Int)) ∧
                      (I212 (s236) (true) ((i216 + (1 : Int))) w234 ∧ mu213 (s236) (true) ((i216 + (1 : Int))) w234 < mu213 want214 has215 i216 w217)) (
                      inR .i64 (i216 + (1 : Int)) ∧
                      (I212 (want214) (has215) ((i216 + (1 : Int))) w234 ∧ mu213 (want214) (has215) ((i216 + (1 : Int))) w234 < mu213 want214 has215 i216 w217))) (
                    BIf (!(b209 == has215)) (
                      K (Value.bool false) w217) (
                      Calls Tryd.prog fn_tidewaternum_SameInts ⟨[(Slc.v s208), (Slc.v want214)]⟩ w217 fun e237 w238 =>
                      ∃ b239 : Bool, e237 = .returned (Value.bool b239) ∧
                      BIf (!b239) (
                        K (Value.bool false) w238) (
                        inR .i64 (i165 + (1 : Int)) ∧
                        (I163 ((i165 + (1 : Int))) w238 ∧ mu164 ((i165 + (1 : Int))) w238 < mu164 i165 w166)))))) (
                K (Value.bool true) w166)))))))

theorem tidewaterlaw06_PageWrites_eq (e1 : Int) (e2 : Int) (e3 : Int) (e4 : Int) (e5 : Int) (e6 : Int) (e7 : Slc) (e8 : List UInt8) (e9 : Int) (e10 : Int) (e11 : Int) (e12 : Slc) (backs13 : Slc) (w : World) (K : Value → World → Prop) : tidewaterlaw06_PageWrites e1 e2 e3 e4 e5 e6 e7 e8 e9 e10 e11 e12 backs13 w K = denF Tryd.prog callB Tryd.f4 (.two .none (.two .none (.two .none (.two .none (.two .none (.cut [] [4, 35, 36, 37, 38, 39, 40, 41, 42, 43, 44, 45] .none (.two .none (.two .none (.cut [] [4, 54, 55, 56, 57, 58, 59, 60, 61, 62, 63, 64, 65, 66, 67, 68, 69, 70, 71, 72, 73, 74, 75, 76] .none (.two (.two .none (.one (.loop [(77, (Sh.int .i64))] [4, 11, 12, 13, 14, 15, 17, 78, 79, 80, 81, 82, 83, 84, 85, 86, 87, 88, 89, 90, 91, 92, 93, 94, 95, 96, 97, 98, 99, 100, 101, 102, 103, 104, 105, 106, 107, 108, 109] (.two .none (.two .none (.two (.one (.two .none (.two .none (.two .none (.two .none (.two (.two .none (.one (.loop [(14, Sh.slc), (15, Sh.bool), (89, (Sh.int .i64))] [17, 90, 91, 92, 93, 94, 95, 96, 97, 98, 99] .none))) .none)))))) .none)))))) .none)))))))))) [(Value.agg ⟨[(Value.int .i64 e1), (Value.int .i64 e2), (Value.int .i64 e3), (Value.int .i64 e4), (Value.int .i64 e5), (Value.int .i64 e6), (Slc.v e7), (strV e8), (Value.int .i64 e9), (Value.int .i64 e10), (Value.int .i64 e11), (Slc.v e12)]⟩), (Slc.v backs13)] w K := by kernel_rfl
theorem tidewaterlaw06_PageWrites_ok (e1 : Int) (e2 : Int) (e3 : Int) (e4 : Int) (e5 : Int) (e6 : Int) (e7 : Slc) (e8 : List UInt8) (e9 : Int) (e10 : Int) (e11 : Int) (e12 : Slc) (backs13 : Slc) {w : World} {R : Ending → World → Prop} (h : tidewaterlaw06_PageWrites e1 e2 e3 e4 e5 e6 e7 e8 e9 e10 e11 e12 backs13 w fun v w' => R (.returned v) w') : Calls Tryd.prog fn_tidewaterlaw06_PageWrites ⟨[(Value.agg ⟨[(Value.int .i64 e1), (Value.int .i64 e2), (Value.int .i64 e3), (Value.int .i64 e4), (Value.int .i64 e5), (Value.int .i64 e6), (Slc.v e7), (strV e8), (Value.int .i64 e9), (Value.int .i64 e10), (Value.int .i64 e11), (Slc.v e12)]⟩), (Slc.v backs13)]⟩ w R :=
  calls_of_den callB_ok mixed Tryd.func4 (tidewaterlaw06_PageWrites_eq e1 e2 e3 e4 e5 e6 e7 e8 e9 e10 e11 e12 backs13 w _ ▸ h)

end Go.D
