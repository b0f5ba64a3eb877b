/-
  WHAT IS PROVED: verification conditions of functions of this program, each with its soundness. No further conditions.
-/
import Derived.Test.YtmfdpgjnmdlajaaDoorBase
set_option linter.unusedSimpArgs false
set_option maxRecDepth 100000
set_option linter.unusedVariables false
namespace Go.D
open Go Go.Proofs
/-- tidewater/tidewaterlaw35.alive -/
def tidewaterlaw35_alive  (w : World) (K : Value → World → Prop) : Prop :=
  newS w (.cells ⟨[(Value.int .i64 (0 : Int)), (Value.int .i64 (0 : Int)), (Value.int .i64 (4 : Int)), (strV ([97] : List UInt8)), (strV ([120] : List UInt8)), (strV ([] : List UInt8)), (Value.bool true), (Value.int .i64 (1 : Int)), (Value.int .i64 (1 : Int)), (Value.int .i64 (1 : Int)), (strV ([97] : List UInt8)), (strV ([120] : List UInt8)), (strV ([] : List UInt8)), (Value.bool false)]⟩ 42) fun r1 w2 =>
  Calls Tryd.prog fn_order_Find ⟨[(Slc.v (⟨(some (⟨r1, 0, none⟩ : Addr)), 2, 2⟩ : Slc))]⟩ w2 fun e3 w4 =>
  ∃ s5 : Slc, ∃ e6 : Value, e3 = .returned (Value.tuple ⟨[(Slc.v s5), e6]⟩) ∧
  newS w4 (.cells ⟨[(Value.int .i64 (0 : Int)), (Value.int .i64 (0 : Int)), (Value.int .i64 (4 : Int)), (strV ([97] : List UInt8)), (strV ([120] : List UInt8)), (strV ([] : List UInt8)), (Value.bool true), (Value.int .i64 (0 : Int)), (Value.int .i64 (0 : Int)), (Value.int .i64 (1 : Int)), (strV ([97] : List UInt8)), (strV ([120] : List UInt8)), (strV ([] : List UInt8)), (Value.bool false)]⟩ 42) fun r7 w8 =>
  Calls Tryd.prog fn_order_Find ⟨[(Slc.v (⟨(some (⟨r7, 0, none⟩ : Addr)), 2, 2⟩ : Slc))]⟩ w8 fun e9 w10 =>
  ∃ s11 : Slc, ∃ e12 : Value, e9 = .returned (Value.tuple ⟨[(Slc.v s11), e12]⟩) ∧
  Calls Tryd.prog fn_tidewaternum_Num ⟨[e6]⟩ w10 fun e13 w14 =>
  ∃ n15 : Int, e13 = .returned (Value.int .i64 n15) ∧
  BIf (decide (n15 = (18 : Int))) (
    isI e12 ∧
    BIf (isNilI e12) (
      newS w14 (.cells ⟨[(Value.int .i64 (1 : Int)), (Value.int .i64 (0 : Int))]⟩ 3) fun r16 w17 =>
      Calls Tryd.prog fn_tidewaternum_SameInts ⟨[(Slc.v s11), (Slc.v (⟨(some (⟨r16, 0, none⟩ : Addr)), 2, 2⟩ : Slc))]⟩ w17 fun e18 w19 =>
      ∃ b20 : Bool, e18 = .returned (Value.bool b20) ∧
      K (Value.bool b20) w19) (
      K (Value.bool false) w14)) (
    K (Value.bool false) w14)

theorem tidewaterlaw35_alive_eq  (w : World) (K : Value → World → Prop) : tidewaterlaw35_alive  w K = denF Tryd.prog callB Tryd.f7 .none [] w K := by kernel_rfl
theorem tidewaterlaw35_alive_ok  {w : World} {R : Ending → World → Prop} (h : tidewaterlaw35_alive  w fun v w' => R (.returned v) w') : Calls Tryd.prog fn_tidewaterlaw35_alive ⟨[]⟩ w R :=
  calls_of_den callB_ok mixed Tryd.func7 (tidewaterlaw35_alive_eq  w _ ▸ h)

/-- tidewater/tidewaterlaw35.of -/
def tidewaterlaw35_of (list1 : Slc) (most2 : Int) (w : World) (K : Value → World → Prop) : Prop :=
  BIf (decide (most2 < ((list1.l : Nat) : Int))) (
    K (Value.tuple ⟨[(Slc.v (⟨none, 0, 0⟩ : Slc)), (Value.bool false)]⟩) w) (
    newS w (.cells ⟨[]⟩ 33) fun r3 w4 =>
    ∃ (I5 : (Slc) → (Int) → World → Prop) (mu6 : (Slc) → (Int) → World → Nat), I5 ((⟨(some (⟨r3, 0, none⟩ : Addr)), 0, 0⟩ : Slc)) ((0 : Int)) w4 ∧ (
    ∀ out7 : Slc, ∀ i8 : Int, ∀ w9 : World, I5 out7 i8 w9 → ∀ u10 u11 u12 u13 u14 u15 u16 u17 u18 u19 u20 u21 u22 u23 u24 u25 u26 u27 u28 u29 u30 u31 u32 u33 u34 u35 u36 : Value,
      BIf (decide (i8 < ((list1.l : Nat) : Int))) (
        needSome list1.p fun a37 =>
        0 ≤ i8 ∧ i8 < ((list1.l : Nat) : Int) ∧
        ∃ n38 : Int, ∃ n39 : Int, ∃ n40 : Int, ∃ t41 : List UInt8, ∃ t42 : List UInt8, ∃ t43 : List UInt8, ∃ b44 : Bool, rowAt w9 (Addr.add a37 ((Int.toNat i8) * 7)) 0 [(Value.int .i64 n38), (Value.int .i64 n39), (Value.int .i64 n40), (strV t41), (strV t42), (strV t43), (Value.bool b44)] ∧
        newS w9 (.cells ⟨[(Value.int .i64 (0 : Int)), (Value.int .i64 (0 : Int)), (Value.int .i64 (0 : Int)), (strV ([] : List UInt8)), (strV ([] : List UInt8)), (strV ([] : List UInt8)), (Value.bool false)]⟩ 42) fun r45 w46 =>
        canW w46 (⟨r45, 0, none⟩ : Addr) 7 ∧ ∀ w47 : World, w47 = setCells w46 (⟨r45, 0, none⟩ : Addr) 0 [(Value.int .i64 n38), (Value.int .i64 n39), (Value.int .i64 n40), (strV t41), (strV t42), (strV t43), (Value.bool b44)] →
        ∃ t48 : List UInt8, World.cell? w47 (⟨r45, 3, none⟩ : Addr) = some (strV t48) ∧
        BIf (decide ((100 : Int) < (((List.length t48) : Nat) : Int))) (
          K (Value.tuple ⟨[(Slc.v (⟨none, 0, 0⟩ : Slc)), (Value.bool false)]⟩) w47) (
          ∃ t49 : List UInt8, World.cell? w47 (⟨r45, 4, none⟩ : Addr) = some (strV t49) ∧
          BIf (decide ((100 : Int) < (((List.length t49) : Nat) : Int))) (
            K (Value.tuple ⟨[(Slc.v (⟨none, 0, 0⟩ : Slc)), (Value.bool false)]⟩) w47) (
            ∃ t50 : List UInt8, World.cell? w47 (⟨r45, 5, none⟩ : Addr) = some (strV t50) ∧
            BIf (decide ((100 : Int) < (((List.length t50) : Nat) : Int))) (
              K (Value.tuple ⟨[(Slc.v (⟨none, 0, 0⟩ : Slc)), (Value.bool false)]⟩) w47) (
              ∃ n51 : Int, ∃ n52 : Int, ∃ n53 : Int, ∃ t54 : List UInt8, ∃ t55 : List UInt8, ∃ t56 : List UInt8, ∃ b57 : Bool, rowAt w47 (⟨r45, 0, none⟩ : Addr) 0 [(Value.int .i64 n51), (Value.int .i64 n52), (Value.int .i64 n53), (strV t54), (strV t55), (strV t56), (Value.bool b57)] ∧
              newS w47 (.cells ⟨[(Value.int .i64 n51), (Value.int .i64 n52), (Value.int .i64 n53), (strV t54), (strV t55), (strV t56), (Value.bool b57)]⟩ 33) fun r58 w59 =>
              appendS 7 33 [(Value.int .i64 (0 : Int)), (Value.int .i64 (0 : Int)), (Value.int .i64 (0 : Int)), (strV ([] : List UInt8)), (strV ([] : List UInt8)), (strV ([] : List UInt8)), (Value.bool false)] w59 out7 (.slc (⟨(some (⟨r58, 0, none⟩ : Addr)), 1, 1⟩ : Slc)) fun s60 w61 =>
              inR .i64 (i8 + (1 : Int)) ∧
              (I5 (s60) ((i8 + (1 : Int))) w61 ∧ mu6 (s60) ((i8 + (1 : Int))) w61 < mu6 out7 i8 w9))))) (
        K (Value.tuple ⟨[(Slc.v out7), (Value.bool true)]⟩) w9)))

theorem tidewaterlaw35_of_eq (list1 : Slc) (most2 : Int) (w : World) (K : Value → World → Prop) : tidewaterlaw35_of list1 most2 w K = denF Tryd.prog callB Tryd.f8 (.two .none (.two .none (.two .none (.two (.two .none (.one (.loop [(6, Sh.slc), (16, (Sh.int .i64))] [4, 5, 8, 17, 18, 19, 20, 21, 22, 23, 24, 25, 26, 27, 28, 29, 30, 31, 32, 33, 34, 35, 36, 37, 38, 39, 40] .none))) .none)))) [(Slc.v list1), (Value.int .i64 most2)] w K := by kernel_rfl
theorem tidewaterlaw35_of_ok (list1 : Slc) (most2 : Int) {w : World} {R : Ending → World → Prop} (h : tidewaterlaw35_of list1 most2 w fun v w' => R (.returned v) w') : Calls Tryd.prog fn_tidewaterlaw35_of ⟨[(Slc.v list1), (Value.int .i64 most2)]⟩ w R :=
  calls_of_den callB_ok mixed Tryd.func8 (tidewaterlaw35_of_eq list1 most2 w _ ▸ h)

/-- tidewater/tidewaterlaw35.OrderChecks -/
def tidewaterlaw35_OrderChecks (list1 : Slc) (by2 : Slc) (w : World) (K : Value → World → Prop) : Prop :=
  Calls Tryd.prog fn_tidewaterlaw35_alive ⟨[]⟩ w fun e3 w4 =>
  ∃ b5 : Bool, e3 = .returned (Value.bool b5) ∧
  BIf (!b5) (
    K (Value.bool false) w4) (
    Calls Tryd.prog fn_tidewaterlaw35_of ⟨[(Slc.v list1), (Value.int .i64 (20 : Int))]⟩ w4 fun e6 w7 =>
    ∃ s8 : Slc, ∃ b9 : Bool, e6 = .returned (Value.tuple ⟨[(Slc.v s8), (Value.bool b9)]⟩) ∧
    BIf (!b9) (
      K (Value.bool true) w7) (
      BIf (decide ((30 : Int) < ((by2.l : Nat) : Int))) (
        K (Value.bool true) w7) (
        Calls Tryd.prog fn_order_Check ⟨[(Slc.v list1), (Slc.v by2)]⟩ w7 fun e10 w11 =>
        ∃ b12 : Bool, e10 = .returned (Value.bool b12) ∧
        Calls Tryd.prog fn_tidewaterref35_Stands ⟨[(Slc.v s8), (Slc.v by2)]⟩ w11 fun e13 w14 =>
        ∃ b15 : Bool, e13 = .returned (Value.bool b15) ∧
        K (Value.bool (b12 == b15)) w14)))

theorem tidewaterlaw35_OrderChecks_eq (list1 : Slc) (by2 : Slc) (w : World) (K : Value → World → Prop) : tidewaterlaw35_OrderChecks list1 by2 w K = denF Tryd.prog callB Tryd.f5 .none [(Slc.v list1), (Slc.v by2)] w K := by kernel_rfl
theorem tidewaterlaw35_OrderChecks_ok (list1 : Slc) (by2 : Slc) {w : World} {R : Ending → World → Prop} (h : tidewaterlaw35_OrderChecks list1 by2 w fun v w' => R (.returned v) w') : Calls Tryd.prog fn_tidewaterlaw35_OrderChecks ⟨[(Slc.v list1), (Slc.v by2)]⟩ w R :=
  calls_of_den callB_ok mixed Tryd.func5 (tidewaterlaw35_OrderChecks_eq list1 by2 w _ ▸ h)

/-- tidewater/tidewaterlaw35.OrderFinds -/
def tidewaterlaw35_OrderFinds (list1 : Slc) (w : World) (K : Value → World → Prop) : Prop :=
  Calls Tryd.prog fn_tidewaterlaw35_alive ⟨[]⟩ w fun e2 w3 =>
  ∃ b4 : Bool, e2 = .returned (Value.bool b4) ∧
  BIf (!b4) (
    K (Value.bool false) w3) (
    Calls Tryd.prog fn_tidewaterlaw35_of ⟨[(Slc.v list1), (Value.int .i64 (6 : Int))]⟩ w3 fun e5 w6 =>
    ∃ s7 : Slc, ∃ b8 : Bool, e5 = .returned (Value.tuple ⟨[(Slc.v s7), (Value.bool b8)]⟩) ∧
    BIf (!b8) (
      K (Value.bool true) w6) (
      Calls Tryd.prog fn_order_Find ⟨[(Slc.v list1)]⟩ w6 fun e9 w10 =>
      ∃ s11 : Slc, ∃ e12 : Value, e9 = .returned (Value.tuple ⟨[(Slc.v s11), e12]⟩) ∧
      ∃ (I13 : (Int) → World → Prop) (mu14 : (Int) → World → Nat), I13 ((0 : Int)) w10 ∧ (
      ∀ i15 : Int, ∀ w16 : World, I13 i15 w16 → ∀ u17 u18 u19 u20 u21 u22 u23 u24 u25 u26 u27 u28 u29 u30 u31 u32 u33 u34 u35 u36 u37 u38 u39 u40 u41 : Value,
        BIf (decide (i15 < ((s7.l : Nat) : Int))) (
          needSome s7.p fun a42 =>
          0 ≤ i15 ∧ i15 < ((s7.l : Nat) : Int) ∧
          ∃ n43 : Int, ∃ n44 : Int, ∃ n45 : Int, ∃ t46 : List UInt8, ∃ t47 : List UInt8, ∃ t48 : List UInt8, ∃ b49 : Bool, rowAt w16 (Addr.add a42 ((Int.toNat i15) * 7)) 0 [(Value.int .i64 n43), (Value.int .i64 n44), (Value.int .i64 n45), (strV t46), (strV t47), (strV t48), (Value.bool b49)] ∧
          newS w16 (.cells ⟨[(Value.int .i64 (0 : Int)), (Value.int .i64 (0 : Int)), (Value.int .i64 (0 : Int)), (strV ([] : List UInt8)), (strV ([] : List UInt8)), (strV ([] : List UInt8)), (Value.bool false)]⟩ 33) fun r50 w51 =>
          canW w51 (⟨r50, 0, none⟩ : Addr) 7 ∧ ∀ w52 : World, w52 = setCells w51 (⟨r50, 0, none⟩ : Addr) 0 [(Value.int .i64 n43), (Value.int .i64 n44), (Value.int .i64 n45), (strV t46), (strV t47), (strV t48), (Value.bool b49)] →
          ∃ n53 : Int, ∃ n54 : Int, ∃ n55 : Int, ∃ t56 : List UInt8, ∃ t57 : List UInt8, ∃ t58 : List UInt8, ∃ b59 : Bool, rowAt w52 (⟨r50, 0, none⟩ : Addr) 0 [(Value.int .i64 n53), (Value.int .i64 n54), (Value.int .i64 n55), (strV t56), (strV t57), (strV t58), (Value.bool b59)] ∧
          Calls Tryd.prog fn_tidewaterref35_Right ⟨[(Value.agg ⟨[(Value.int .i64 n53), (Value.int .i64 n54), (Value.int .i64 n55), (strV t56), (strV t57), (strV t58), (Value.bool b59)]⟩)]⟩ w52 fun e60 w61 =>
          ∃ b62 : Bool, e60 = .returned (Value.bool b62) ∧
          BIf (!b62) (
            BIf (decide (((s11.l : Nat) : Int) = (0 : Int))) (
              Calls Tryd.prog fn_tidewaternum_Num ⟨[e12]⟩ w61 fun e63 w64 =>
              ∃ n65 : Int, e63 = .returned (Value.int .i64 n65) ∧
              BIf (decide (n65 = (4 : Int))) (
                Calls Tryd.prog fn_order_Most ⟨[(Slc.v list1)]⟩ w64 fun e66 w67 =>
                ∃ n68 : Int, e66 = .returned (Value.int .i64 n68) ∧
                K (Value.bool (decide (n68 ≤ i15))) w67) (
                K (Value.bool false) w64)) (
              K (Value.bool false) w61)) (
            inR .i64 (i15 + (1 : Int)) ∧
            (I13 ((i15 + (1 : Int))) w61 ∧ mu14 ((i15 + (1 : Int))) w61 < mu14 i15 w16))) (
          Calls Tryd.prog fn_tidewaterref35_Find ⟨[(Slc.v s7)]⟩ w16 fun e69 w70 =>
          ∃ s71 : Slc, ∃ b72 : Bool, e69 = .returned (Value.tuple ⟨[(Slc.v s71), (Value.bool b72)]⟩) ∧
          ∃ J73 : World → Prop,
          (
            BIf (!b72) (
              BIf (!decide (((s11.l : Nat) : Int) = (0 : Int))) (
                K (Value.bool false) w70) (
                Calls Tryd.prog fn_tidewaternum_Num ⟨[e12]⟩ w70 fun e74 w75 =>
                ∃ n76 : Int, e74 = .returned (Value.int .i64 n76) ∧
                BIf (!decide (n76 = (18 : Int))) (
                  K (Value.bool false) w75) (
                  J73 w75))) (
              isI e12 ∧
              BIf (!isNilI e12) (
                K (Value.bool false) w70) (
                Calls Tryd.prog fn_tidewaternum_SameInts ⟨[(Slc.v s11), (Slc.v s71)]⟩ w70 fun e77 w78 =>
                ∃ b79 : Bool, e77 = .returned (Value.bool b79) ∧
                BIf (!b79) (
                  K (Value.bool false) w78) (
                  J73 w78)))) ∧ (
          ∀ w80 : World, J73 w80 → ∀ u81 u82 u83 u84 u85 u86 u87 u88 u89 u90 u91 u92 u93 u94 u95 u96 u97 u98 u99 : Value,
            ∃ (I100 : (Int) → World → Prop) (mu101 : (Int) → World → Nat), I100 (((s7.l : Nat) : Int)) w80 ∧ (
            ∀ many102 : Int, ∀ w103 : World, I100 many102 w103 → ∀ u104 u105 u106 u107 u108 u109 u110 u111 u112 u113 u114 u115 u116 u117 : Value,
              BIf (decide ((0 : Int) < many102)) (
                0 ≤ (0 : Int) ∧ (0 : Int) ≤ many102 ∧ many102 ≤ ((s7.c : Nat) : Int) ∧ ((s7.c : Nat) : Int) ≤ ((s7.c : Nat) : Int) ∧
                Calls Tryd.prog fn_tidewaterref35_Find ⟨[(Slc.v (Slc.sub s7 7 0 (Int.toNat many102) s7.c))]⟩ w103 fun e119 w120 =>
                ∃ s121 : Slc, ∃ b122 : Bool, e119 = .returned (Value.tuple ⟨[(Slc.v s121), (Value.bool b122)]⟩) ∧
                BIf b122 (
                  Calls Tryd.prog fn_order_Most ⟨[(Slc.v list1)]⟩ w120 fun e123 w124 =>
                  ∃ n125 : Int, e123 = .returned (Value.int .i64 n125) ∧
                  K (Value.bool (decide (n125 = many102))) w124) (
                  inR .i64 (many102 - (1 : Int)) ∧
                  (I100 ((many102 - (1 : Int))) w120 ∧ mu101 ((many102 - (1 : Int))) w120 < mu101 many102 w103))) (
                Calls Tryd.prog fn_order_Most ⟨[(Slc.v list1)]⟩ w103 fun e126 w127 =>
                ∃ n128 : Int, e126 = .returned (Value.int .i64 n128) ∧
                K (Value.bool (decide (n128 = many102))) w127)))))))

theorem tidewaterlaw35_OrderFinds_eq (list1 : Slc) (w : World) (K : Value → World → Prop) : tidewaterlaw35_OrderFinds list1 w K = denF Tryd.prog callB Tryd.f3 (.two .none (.two .none (.two .none (.two .none (.two .none (.two (.two .none (.one (.loop [(30, (Sh.int .i64))] [2, 7, 8, 31, 32, 33, 34, 35, 36, 37, 38, 39, 40, 41, 42, 43, 44, 45, 46, 47, 48, 49, 50, 51, 52] .none))) (.two .none (.cut [] [2, 58, 59, 60, 61, 62, 63, 64, 65, 66, 67, 68, 69, 70, 71, 72, 73, 74, 75] .none (.two .none (.two (.one (.loop [(11, (Sh.int .i64))] [12, 13, 78, 79, 80, 81, 82, 83, 84, 85, 86, 87, 88, 89] .none)) .none)))))))))) [(Slc.v list1)] w K := by kernel_rfl
theorem tidewaterlaw35_OrderFinds_ok (list1 : Slc) {w : World} {R : Ending → World → Prop} (h : tidewaterlaw35_OrderFinds list1 w fun v w' => R (.returned v) w') : Calls Tryd.prog fn_tidewaterlaw35_OrderFinds ⟨[(Slc.v list1)]⟩ w R :=
  calls_of_den callB_ok mixed Tryd.func3 (tidewaterlaw35_OrderFinds_eq list1 w _ ▸ h)

/-- tidewater/tidewaterlaw35.OrderLimits -/
def tidewaterlaw35_OrderLimits (n1 : Int) (w : World) (K : Value → World → Prop) : Prop :=
  Calls Tryd.prog fn_tidewaterlaw35_alive ⟨[]⟩ w fun e2 w3 =>
  ∃ b4 : Bool, e2 = .returned (Value.bool b4) ∧
  BIf (!b4) (
    K (Value.bool false) w3) (
    0 ≤ (IntKind.wrap .u64 n1) ∧ 0 < (20 : Int) ∧
    newS w3 (.cells ⟨[]⟩ 42) fun r5 w6 =>
    ∃ (I7 : (Slc) → (Int) → World → Prop) (mu8 : (Slc) → (Int) → World → Nat), I7 ((⟨(some (⟨r5, 0, none⟩ : Addr)), 0, 0⟩ : Slc)) ((0 : Int)) w6 ∧ (
    ∀ list9 : Slc, ∀ i10 : Int, ∀ w11 : World, I7 list9 i10 w11 → ∀ u12 u13 u14 u15 u16 u17 u18 u19 u20 u21 : Value,
      BIf (decide (i10 < (IntKind.wrap .i64 ((IntKind.wrap .u64 n1) % (20 : Int))))) (
        newS w11 (.cells ⟨[(Value.int .i64 i10), (Value.int .i64 i10), (Value.int .i64 (1 : Int)), (strV ([97] : List UInt8)), (strV ([] : List UInt8)), (strV ([] : List UInt8)), (Value.bool false)]⟩ 42) fun r22 w23 =>
        appendS 7 42 [(Value.int .i64 (0 : Int)), (Value.int .i64 (0 : Int)), (Value.int .i64 (0 : Int)), (strV ([] : List UInt8)), (strV ([] : List UInt8)), (strV ([] : List UInt8)), (Value.bool false)] w23 list9 (.slc (⟨(some (⟨r22, 0, none⟩ : Addr)), 1, 1⟩ : Slc)) fun s24 w25 =>
        inR .i64 (i10 + (1 : Int)) ∧
        (I7 (s24) ((i10 + (1 : Int))) w25 ∧ mu8 (s24) ((i10 + (1 : Int))) w25 < mu8 list9 i10 w11)) (
        Calls Tryd.prog fn_order_Find ⟨[(Slc.v list9)]⟩ w11 fun e26 w27 =>
        ∃ s28 : Slc, ∃ e29 : Value, e26 = .returned (Value.tuple ⟨[(Slc.v s28), e29]⟩) ∧
        BIf (decide ((12 : Int) < (IntKind.wrap .i64 ((IntKind.wrap .u64 n1) % (20 : Int))))) (
          BIf (decide (((s28.l : Nat) : Int) = (0 : Int))) (
            Calls Tryd.prog fn_tidewaternum_Num ⟨[e29]⟩ w27 fun e30 w31 =>
            ∃ n32 : Int, e30 = .returned (Value.int .i64 n32) ∧
            BIf (decide (n32 = (3 : Int))) (
              Calls Tryd.prog fn_order_Most ⟨[(Slc.v list9)]⟩ w31 fun e33 w34 =>
              ∃ n35 : Int, e33 = .returned (Value.int .i64 n35) ∧
              K (Value.bool (decide (n35 = (12 : Int)))) w34) (
              K (Value.bool false) w31)) (
            K (Value.bool false) w27)) (
          isI e29 ∧
          BIf (isNilI e29) (
            BIf (decide (((s28.l : Nat) : Int) = (IntKind.wrap .i64 ((IntKind.wrap .u64 n1) % (20 : Int))))) (
              Calls Tryd.prog fn_order_Most ⟨[(Slc.v list9)]⟩ w27 fun e36 w37 =>
              ∃ n38 : Int, e36 = .returned (Value.int .i64 n38) ∧
              K (Value.bool (decide (n38 = (IntKind.wrap .i64 ((IntKind.wrap .u64 n1) % (20 : Int)))))) w37) (
              K (Value.bool false) w27)) (
            K (Value.bool false) w27)))))

theorem tidewaterlaw35_OrderLimits_eq (n1 : Int) (w : World) (K : Value → World → Prop) : tidewaterlaw35_OrderLimits n1 w K = denF Tryd.prog callB Tryd.f4 (.two .none (.two .none (.two .none (.two .none (.two (.two .none (.one (.loop [(3, Sh.slc), (15, (Sh.int .i64))] [4, 16, 17, 18, 19, 20, 21, 22, 23, 24] .none))) .none))))) [(Value.int .i64 n1)] w K := by kernel_rfl
theorem tidewaterlaw35_OrderLimits_ok (n1 : Int) {w : World} {R : Ending → World → Prop} (h : tidewaterlaw35_OrderLimits n1 w fun v w' => R (.returned v) w') : Calls Tryd.prog fn_tidewaterlaw35_OrderLimits ⟨[(Value.int .i64 n1)]⟩ w R :=
  calls_of_den callB_ok mixed Tryd.func4 (tidewaterlaw35_OrderLimits_eq n1 w _ ▸ h)

/-- tidewater/tidewaterlaw35.OrderSeen -/
def tidewaterlaw35_OrderSeen (list1 : Slc) (w : World) (K : Value → World → Prop) : Prop :=
  Calls Tryd.prog fn_tidewaterlaw35_alive ⟨[]⟩ w fun e2 w3 =>
  ∃ b4 : Bool, e2 = .returned (Value.bool b4) ∧
  BIf (!b4) (
    K (Value.bool false) w3) (
    Calls Tryd.prog fn_tidewaterlaw35_of ⟨[(Slc.v list1), (Value.int .i64 (12 : Int))]⟩ w3 fun e5 w6 =>
    ∃ s7 : Slc, ∃ b8 : Bool, e5 = .returned (Value.tuple ⟨[(Slc.v s7), (Value.bool b8)]⟩) ∧
    BIf (!b8) (
      K (Value.bool true) w6) (
      newS w6 (.map #[] 0) fun r9 w10 =>
      newS w10 (.cells ⟨[]⟩ 42) fun r11 w12 =>
      ∃ (I13 : (Slc) → (Int) → World → Prop) (mu14 : (Slc) → (Int) → World → Nat), I13 ((⟨(some (⟨r11, 0, none⟩ : Addr)), 0, 0⟩ : Slc)) ((0 : Int)) w12 ∧ (
      ∀ seen15 : Slc, ∀ i16 : Int, ∀ w17 : World, I13 seen15 i16 w17 → ∀ u18 u19 u20 u21 u22 u23 u24 u25 u26 u27 u28 u29 u30 u31 u32 u33 u34 u35 u36 u37 u38 u39 u40 u41 u42 u43 u44 u45 u46 u47 u48 u49 u50 u51 u52 u53 u54 u55 u56 u57 u58 u59 u60 u61 u62 u63 u64 u65 u66 u67 u68 u69 u70 u71 u72 u73 u74 u75 u76 u77 u78 u79 u80 u81 u82 u83 u84 u85 u86 u87 u88 u89 u90 u91 u92 u93 : Value,
        BIf (decide (i16 < ((list1.l : Nat) : Int))) (
          needSome list1.p fun a94 =>
          0 ≤ i16 ∧ i16 < ((list1.l : Nat) : Int) ∧
          ∃ n95 : Int, ∃ n96 : Int, ∃ n97 : Int, ∃ t98 : List UInt8, ∃ t99 : List UInt8, ∃ t100 : List UInt8, ∃ b101 : Bool, rowAt w17 (Addr.add a94 ((Int.toNat i16) * 7)) 0 [(Value.int .i64 n95), (Value.int .i64 n96), (Value.int .i64 n97), (strV t98), (strV t99), (strV t100), (Value.bool b101)] ∧
          newS w17 (.cells ⟨[(Value.int .i64 (0 : Int)), (Value.int .i64 (0 : Int)), (Value.int .i64 (0 : Int)), (strV ([] : List UInt8)), (strV ([] : List UInt8)), (strV ([] : List UInt8)), (Value.bool false)]⟩ 42) fun r102 w103 =>
          canW w103 (⟨r102, 0, none⟩ : Addr) 7 ∧ ∀ w104 : World, w104 = setCells w103 (⟨r102, 0, none⟩ : Addr) 0 [(Value.int .i64 n95), (Value.int .i64 n96), (Value.int .i64 n97), (strV t98), (strV t99), (strV t100), (Value.bool b101)] →
          ∃ n105 : Int, World.cell? w104 (⟨r102, 0, none⟩ : Addr) = some (Value.int .i64 n105) ∧
          0 ≤ (IntKind.wrap .u64 n105) ∧ 0 < (3 : Int) ∧
          inR .i64 (i16 - (IntKind.wrap .i64 ((IntKind.wrap .u64 n105) % (3 : Int)))) ∧
          canW w104 (⟨r102, 0, none⟩ : Addr) 1 ∧ ∀ w106 : World, w106 = World.setCell w104 (⟨r102, 0, none⟩ : Addr) (Value.int .i64 (if (i16 - (IntKind.wrap .i64 ((IntKind.wrap .u64 n105) % (3 : Int)))) > (0 : Int) then (i16 - (IntKind.wrap .i64 ((IntKind.wrap .u64 n105) % (3 : Int)))) else (0 : Int))) →
          canW w106 (⟨r102, 1, none⟩ : Addr) 1 ∧ ∀ w107 : World, w107 = World.setCell w106 (⟨r102, 1, none⟩ : Addr) (Value.int .i64 i16) →
          ∃ t108 : List UInt8, World.cell? w107 (⟨r102, 3, none⟩ : Addr) = some (strV t108) ∧
          ∃ es109 : Array MapEntry, mapIs w107 (some r9) es109 ∧
          ∃ q110 : Option (List UInt8), mapGet .string (strV t108) es109 = some (Option.map (Sh.v Sh.str) q110) ∧
          ∃ n111 : Int, World.cell? w107 (⟨r102, 2, none⟩ : Addr) = some (Value.int .i64 n111) ∧
          0 ≤ (IntKind.wrap .u64 n111) ∧ 0 < (4 : Int) ∧
          inR .i64 ((1 : Int) + (IntKind.wrap .i64 ((IntKind.wrap .u64 n111) % (4 : Int)))) ∧
          BIf (decide (((1 : Int) + (IntKind.wrap .i64 ((IntKind.wrap .u64 n111) % (4 : Int)))) = (1 : Int))) (
            canW w107 (⟨r102, 2, none⟩ : Addr) 1 ∧ ∀ w112 : World, w112 = World.setCell w107 (⟨r102, 2, none⟩ : Addr) (Value.int .i64 (1 : Int)) →
            ∃ t113 : List UInt8, World.cell? w112 (⟨r102, 3, none⟩ : Addr) = some (strV t113) ∧
            ∃ t114 : List UInt8, World.cell? w112 (⟨r102, 4, none⟩ : Addr) = some (strV t114) ∧
            ∃ (mb115 : Nat) (es116 : Array MapEntry) (ck117 : Nat) (es118 : Array MapEntry) (ck119 : Nat), (some r9) = some mb115 ∧ (World.heap (w112))[mb115]? = some (.map es116 ck117) ∧ mapPut .string (strV t113) (strV t114) es116 ck117 = some (es118, ck119) ∧ ∀ w120 : World, w120 = setObjW w112 mb115 (.map es118 ck119) →
            ∃ n121 : Int, ∃ n122 : Int, ∃ n123 : Int, ∃ t124 : List UInt8, ∃ t125 : List UInt8, ∃ t126 : List UInt8, ∃ b127 : Bool, rowAt w120 (⟨r102, 0, none⟩ : Addr) 0 [(Value.int .i64 n121), (Value.int .i64 n122), (Value.int .i64 n123), (strV t124), (strV t125), (strV t126), (Value.bool b127)] ∧
            newS w120 (.cells ⟨[(Value.int .i64 n121), (Value.int .i64 n122), (Value.int .i64 n123), (strV t124), (strV t125), (strV t126), (Value.bool b127)]⟩ 42) fun r128 w129 =>
            appendS 7 42 [(Value.int .i64 (0 : Int)), (Value.int .i64 (0 : Int)), (Value.int .i64 (0 : Int)), (strV ([] : List UInt8)), (strV ([] : List UInt8)), (strV ([] : List UInt8)), (Value.bool false)] w129 seen15 (.slc (⟨(some (⟨r128, 0, none⟩ : Addr)), 1, 1⟩ : Slc)) fun s130 w131 =>
            inR .i64 (i16 + (1 : Int)) ∧
            (I13 (s130) ((i16 + (1 : Int))) w131 ∧ mu14 (s130) ((i16 + (1 : Int))) w131 < mu14 seen15 i16 w17)) (
            BIf (decide (((1 : Int) + (IntKind.wrap .i64 ((IntKind.wrap .u64 n111) % (4 : Int)))) = (2 : Int))) (
              canW w107 (⟨r102, 2, none⟩ : Addr) 1 ∧ ∀ w132 : World, w132 = World.setCell w107 (⟨r102, 2, none⟩ : Addr) (Value.int .i64 (2 : Int)) →
              canW w132 (⟨r102, 6, none⟩ : Addr) 1 ∧ ∀ w133 : World, w133 = World.setCell w132 (⟨r102, 6, none⟩ : Addr) (Value.bool (Option.isSome q110)) →
              ∃ t134 : List UInt8, World.cell? w133 (⟨r102, 3, none⟩ : Addr) = some (strV t134) ∧
              ∃ (mb135 : Nat) (es136 : Array MapEntry) (ck137 : Nat) (es138 : Array MapEntry), (some r9) = some mb135 ∧ (World.heap (w133))[mb135]? = some (.map es136 ck137) ∧ mapDel .string (strV t134) es136 = some es138 ∧ ∀ w139 : World, w139 = setObjW w133 mb135 (.map es138 ck137) →
              ∃ n140 : Int, ∃ n141 : Int, ∃ n142 : Int, ∃ t143 : List UInt8, ∃ t144 : List UInt8, ∃ t145 : List UInt8, ∃ b146 : Bool, rowAt w139 (⟨r102, 0, none⟩ : Addr) 0 [(Value.int .i64 n140), (Value.int .i64 n141), (Value.int .i64 n142), (strV t143), (strV t144), (strV t145), (Value.bool b146)] ∧
              newS w139 (.cells ⟨[(Value.int .i64 n140), (Value.int .i64 n141), (Value.int .i64 n142), (strV t143), (strV t144), (strV t145), (Value.bool b146)]⟩ 42) fun r147 w148 =>
              appendS 7 42 [(Value.int .i64 (0 : Int)), (Value.int .i64 (0 : Int)), (Value.int .i64 (0 : Int)), (strV ([] : List UInt8)), (strV ([] : List UInt8)), (strV ([] : List UInt8)), (Value.bool false)] w148 seen15 (.slc (⟨(some (⟨r147, 0, none⟩ : Addr)), 1, 1⟩ : Slc)) fun s149 w150 =>
              inR .i64 (i16 + (1 : Int)) ∧
              (I13 (s149) ((i16 + (1 : Int))) w150 ∧ mu14 (s149) ((i16 + (1 : Int))) w150 < mu14 seen15 i16 w17)) (
              BIf (decide (((1 : Int) + (IntKind.wrap .i64 ((IntKind.wrap .u64 n111) % (4 : Int)))) = (3 : Int))) (
                BIf (Option.isSome q110) (
                  ∃ t151 : List UInt8, World.cell? w107 (⟨r102, 5, none⟩ : Addr) = some (strV t151) ∧
                  canW w107 (⟨r102, 2, none⟩ : Addr) 1 ∧ ∀ w152 : World, w152 = World.setCell w107 (⟨r102, 2, none⟩ : Addr) (Value.int .i64 (3 : Int)) →
                  canW w152 (⟨r102, 6, none⟩ : Addr) 1 ∧ ∀ w153 : World, w153 = World.setCell w152 (⟨r102, 6, none⟩ : Addr) (Value.bool (decide ((Option.getD q110 []) = t151))) →
                  ∃ b154 : Bool, World.cell? w153 (⟨r102, 6, none⟩ : Addr) = some (Value.bool b154) ∧
                  BIf b154 (
                    ∃ t155 : List UInt8, World.cell? w153 (⟨r102, 3, none⟩ : Addr) = some (strV t155) ∧
                    ∃ t156 : List UInt8, World.cell? w153 (⟨r102, 4, none⟩ : Addr) = some (strV t156) ∧
                    ∃ (mb157 : Nat) (es158 : Array MapEntry) (ck159 : Nat) (es160 : Array MapEntry) (ck161 : Nat), (some r9) = some mb157 ∧ (World.heap (w153))[mb157]? = some (.map es158 ck159) ∧ mapPut .string (strV t155) (strV t156) es158 ck159 = some (es160, ck161) ∧ ∀ w162 : World, w162 = setObjW w153 mb157 (.map es160 ck161) →
                    ∃ n163 : Int, ∃ n164 : Int, ∃ n165 : Int, ∃ t166 : List UInt8, ∃ t167 : List UInt8, ∃ t168 : List UInt8, ∃ b169 : Bool, rowAt w162 (⟨r102, 0, none⟩ : Addr) 0 [(Value.int .i64 n163), (Value.int .i64 n164), (Value.int .i64 n165), (strV t166), (strV t167), (strV t168), (Value.bool b169)] ∧
                    newS w162 (.cells ⟨[(Value.int .i64 n163), (Value.int .i64 n164), (Value.int .i64 n165), (strV t166), (strV t167), (strV t168), (Value.bool b169)]⟩ 42) fun r170 w171 =>
                    appendS 7 42 [(Value.int .i64 (0 : Int)), (Value.int .i64 (0 : Int)), (Value.int .i64 (0 : Int)), (strV ([] : List UInt8)), (strV ([] : List UInt8)), (strV ([] : List UInt8)), (Value.bool false)] w171 seen15 (.slc (⟨(some (⟨r170, 0, none⟩ : Addr)), 1, 1⟩ : Slc)) fun s172 w173 =>
                    inR .i64 (i16 + (1 : Int)) ∧
                    (I13 (s172) ((i16 + (1 : Int))) w173 ∧ mu14 (s172) ((i16 + (1 : Int))) w173 < mu14 seen15 i16 w17)) (
                    ∃ n174 : Int, ∃ n175 : Int, ∃ n176 : Int, ∃ t177 : List UInt8, ∃ t178 : List UInt8, ∃ t179 : List UInt8, ∃ b180 : Bool, rowAt w153 (⟨r102, 0, none⟩ : Addr) 0 [(Value.int .i64 n174), (Value.int .i64 n175), (Value.int .i64 n176), (strV t177), (strV t178), (strV t179), (Value.bool b180)] ∧
                    newS w153 (.cells ⟨[(Value.int .i64 n174), (Value.int .i64 n175), (Value.int .i64 n176), (strV t177), (strV t178), (strV t179), (Value.bool b180)]⟩ 42) fun r181 w182 =>
                    appendS 7 42 [(Value.int .i64 (0 : Int)), (Value.int .i64 (0 : Int)), (Value.int .i64 (0 : Int)), (strV ([] : List UInt8)), (strV ([] : List UInt8)), (strV ([] : List UInt8)), (Value.bool false)] w182 seen15 (.slc (⟨(some (⟨r181, 0, none⟩ : Addr)), 1, 1⟩ : Slc)) fun s183 w184 =>
                    inR .i64 (i16 + (1 : Int)) ∧
                    (I13 (s183) ((i16 + (1 : Int))) w184 ∧ mu14 (s183) ((i16 + (1 : Int))) w184 < mu14 seen15 i16 w17))) (
                  canW w107 (⟨r102, 2, none⟩ : Addr) 1 ∧ ∀ w185 : World, w185 = World.setCell w107 (⟨r102, 2, none⟩ : Addr) (Value.int .i64 (3 : Int)) →
                  canW w185 (⟨r102, 6, none⟩ : Addr) 1 ∧ ∀ w186 : World, w186 = World.setCell w185 (⟨r102, 6, none⟩ : Addr) (Value.bool false) →
                  ∃ b187 : Bool, World.cell? w186 (⟨r102, 6, none⟩ : Addr) = some (Value.bool b187) ∧
                  BIf b187 (
                    ∃ t188 : List UInt8, World.cell? w186 (⟨r102, 3, none⟩ : Addr) = some (strV t188) ∧
                    ∃ t189 : List UInt8, World.cell? w186 (⟨r102, 4, none⟩ : Addr) = some (strV t189) ∧
                    ∃ (mb190 : Nat) (es191 : Array MapEntry) (ck192 : Nat) (es193 : Array MapEntry) (ck194 : Nat), (some r9) = some mb190 ∧ (World.heap (w186))[mb190]? = some (.map es191 ck192) ∧ mapPut .string (strV t188) (strV t189) es191 ck192 = some (es193, ck194) ∧ ∀ w195 : World, w195 = setObjW w186 mb190 (.map es193 ck194) →
                    ∃ n196 : Int, ∃ n197 : Int, ∃ n198 : Int, ∃ t199 : List UInt8, ∃ t200 : List UInt8, ∃ t201 : List UInt8, ∃ b202 : Bool, rowAt w195 (⟨r102, 0, none⟩ : Addr) 0 [(Value.int .i64 n196), (Value.int .i64 n197), (Value.int .i64 n198), (strV t199), (strV t200), (strV t201), (Value.bool b202)] ∧
                    newS w195 (.cells ⟨[(Value.int .i64 n196), (Value.int .i64 n197), (Value.int .i64 n198), (strV t199), (strV t200), (strV t201), (Value.bool b202)]⟩ 42) fun r203 w204 =>
                    appendS 7 42 [(Value.int .i64 (0 : Int)), (Value.int .i64 (0 : Int)), (Value.int .i64 (0 : Int)), (strV ([] : List UInt8)), (strV ([] : List UInt8)), (strV ([] : List UInt8)), (Value.bool false)] w204 seen15 (.slc (⟨(some (⟨r203, 0, none⟩ : Addr)), 1, 1⟩ : Slc)) fun s205 w206 =>
                    inR .i64 (i16 + (1 : Int)) ∧
                    (I13 (s205) ((i16 + (1 : Int))) w206 ∧ mu14 (s205) ((i16 + (1 : Int))) w206 < mu14 seen15 i16 w17)) (
                    ∃ n207 : Int, ∃ n208 : Int, ∃ n209 : Int, ∃ t210 : List UInt8, ∃ t211 : List UInt8, ∃ t212 : List UInt8, ∃ b213 : Bool, rowAt w186 (⟨r102, 0, none⟩ : Addr) 0 [(Value.int .i64 n207), (Value.int .i64 n208), (Value.int .i64 n209), (strV t210), (strV t211), (strV t212), (Value.bool b213)] ∧
                    newS w186 (.cells ⟨[(Value.int .i64 n207), (Value.int .i64 n208), (Value.int .i64 n209), (strV t210), (strV t211), (strV t212), (Value.bool b213)]⟩ 42) fun r214 w215 =>
                    appendS 7 42 [(Value.int .i64 (0 : Int)), (Value.int .i64 (0 : Int)), (Value.int .i64 (0 : Int)), (strV ([] : List UInt8)), (strV ([] : List UInt8)), (strV ([] : List UInt8)), (Value.bool false)] w215 seen15 (.slc (⟨(some (⟨r214, 0, none⟩ : Addr)), 1, 1⟩ : Slc)) fun s216 w217 =>
                    inR .i64 (i16 + (1 : Int)) ∧
                    (I13 (s216) ((i16 + (1 : Int))) w217 ∧ mu14 (s216) ((i16 + (1 : Int))) w217 < mu14 seen15 i16 w17)))) (
                canW w107 (⟨r102, 2, none⟩ : Addr) 1 ∧ ∀ w218 : World, w218 = World.setCell w107 (⟨r102, 2, none⟩ : Addr) (Value.int .i64 (4 : Int)) →
                canW w218 (⟨r102, 6, none⟩ : Addr) 1 ∧ ∀ w219 : World, w219 = World.setCell w218 (⟨r102, 6, none⟩ : Addr) (Value.bool (Option.isSome q110)) →
                canW w219 (⟨r102, 4, none⟩ : Addr) 1 ∧ ∀ w220 : World, w220 = World.setCell w219 (⟨r102, 4, none⟩ : Addr) (strV (Option.getD q110 [])) →
                ∃ n221 : Int, ∃ n222 : Int, ∃ n223 : Int, ∃ t224 : List UInt8, ∃ t225 : List UInt8, ∃ t226 : List UInt8, ∃ b227 : Bool, rowAt w220 (⟨r102, 0, none⟩ : Addr) 0 [(Value.int .i64 n221), (Value.int .i64 n222), (Value.int .i64 n223), (strV t224), (strV t225), (strV t226), (Value.bool b227)] ∧
                newS w220 (.cells ⟨[(Value.int .i64 n221), (Value.int .i64 n222), (Value.int .i64 n223), (strV t224), (strV t225), (strV t226), (Value.bool b227)]⟩ 42) fun r228 w229 =>
                appendS 7 42 [(Value.int .i64 (0 : Int)), (Value.int .i64 (0 : Int)), (Value.int .i64 (0 : Int)), (strV ([] : List UInt8)), (strV ([] : List UInt8)), (strV ([] : List UInt8)), (Value.bool false)] w229 seen15 (.slc (⟨(some (⟨r228, 0, none⟩ : Addr)), 1, 1⟩ : Slc)) fun s230 w231 =>
                inR .i64 (i16 + (1 : Int)) ∧
                (I13 (s230) ((i16 + (1 : Int))) w231 ∧ mu14 (s230) ((i16 + (1 : Int))) w231 < mu14 seen15 i16 w17))))) (
          Calls Tryd.prog fn_order_Find ⟨[(Slc.v seen15)]⟩ w17 fun e232 w233 =>
          ∃ s234 : Slc, ∃ e235 : Value, e232 = .returned (Value.tuple ⟨[(Slc.v s234), e235]⟩) ∧
          isI e235 ∧
          BIf (isNilI e235) (
            Calls Tryd.prog fn_order_Check ⟨[(Slc.v seen15), (Slc.v s234)]⟩ w233 fun e236 w237 =>
            ∃ b238 : Bool, e236 = .returned (Value.bool b238) ∧
            BIf b238 (
              Calls Tryd.prog fn_order_Most ⟨[(Slc.v seen15)]⟩ w237 fun e239 w240 =>
              ∃ n241 : Int, e239 = .returned (Value.int .i64 n241) ∧
              K (Value.bool (decide (n241 = ((seen15.l : Nat) : Int)))) w240) (
              K (Value.bool false) w237)) (
            K (Value.bool false) w233)))))

theorem tidewaterlaw35_OrderSeen_eq (list1 : Slc) (w : World) (K : Value → World → Prop) : tidewaterlaw35_OrderSeen list1 w K = denF Tryd.prog callB Tryd.f6 (.two .none (.two .none (.two .none (.two .none (.two .none (.two (.two .none (.one (.loop [(6, Sh.slc), (26, (Sh.int .i64))] [7, 8, 9, 10, 27, 28, 29, 30, 31, 32, 33, 34, 35, 36, 37, 38, 39, 40, 41, 42, 43, 44, 45, 46, 47, 48, 49, 50, 51, 52, 53, 54, 55, 56, 57, 58, 59, 60, 61, 62, 63, 64, 65, 66, 67, 68, 69, 70, 71, 72, 73, 74, 75, 76, 77, 78, 79, 80, 81, 82, 83, 84, 85, 86, 87, 88, 89, 90, 91, 92, 93, 94, 95, 96, 97, 98] .none))) .none)))))) [(Slc.v list1)] w K := by kernel_rfl
theorem tidewaterlaw35_OrderSeen_ok (list1 : Slc) {w : World} {R : Ending → World → Prop} (h : tidewaterlaw35_OrderSeen list1 w fun v w' => R (.returned v) w') : Calls Tryd.prog fn_tidewaterlaw35_OrderSeen ⟨[(Slc.v list1)]⟩ w R :=
  calls_of_den callB_ok mixed Tryd.func6 (tidewaterlaw35_OrderSeen_eq list1 w _ ▸ h)

end Go.D
