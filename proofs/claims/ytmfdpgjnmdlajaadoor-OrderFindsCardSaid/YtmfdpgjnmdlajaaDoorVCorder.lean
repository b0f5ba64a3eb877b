/-
  WHAT IS PROVED: verification conditions of functions of this program, each with its soundness. No further conditions.
-/
import Derived.Test.YtmfdpgjnmdlajaaDoorBase
set_option linter.unusedSimpArgs false
set_option maxRecDepth 100000
set_option linter.unusedVariables false
namespace Go.D
open Go Go.Proofs
/-- (tidewater/order.Event).right -/
def order_Event_right (e1 : Int) (e2 : Int) (e3 : Int) (e4 : List UInt8) (e5 : List UInt8) (e6 : List UInt8) (e7 : Bool) (w : World) (K : Value → World → Prop) : Prop :=
  newS w (.cells ⟨[(Value.int .i64 e1), (Value.int .i64 e2), (Value.int .i64 e3), (strV e4), (strV e5), (strV e6), (Value.bool e7)]⟩ 42) fun r8 w9 =>
  ∃ n10 : Int, World.cell? w9 (⟨r8, 0, none⟩ : Addr) = some (Value.int .i64 n10) ∧
  ∃ n11 : Int, World.cell? w9 (⟨r8, 1, none⟩ : Addr) = some (Value.int .i64 n11) ∧
  BIf (decide (n10 ≤ n11)) (
    ∃ n12 : Int, World.cell? w9 (⟨r8, 2, none⟩ : Addr) = some (Value.int .i64 n12) ∧
    BIf (decide ((1 : Int) ≤ n12)) (
      ∃ n13 : Int, World.cell? w9 (⟨r8, 2, none⟩ : Addr) = some (Value.int .i64 n13) ∧
      K (Value.bool (decide (n13 ≤ (4 : Int)))) w9) (
      K (Value.bool false) w9)) (
    K (Value.bool false) w9)

theorem order_Event_right_eq (e1 : Int) (e2 : Int) (e3 : Int) (e4 : List UInt8) (e5 : List UInt8) (e6 : List UInt8) (e7 : Bool) (w : World) (K : Value → World → Prop) : order_Event_right e1 e2 e3 e4 e5 e6 e7 w K = denF Tryd.prog callB Tryd.f19 .none [(Value.agg ⟨[(Value.int .i64 e1), (Value.int .i64 e2), (Value.int .i64 e3), (strV e4), (strV e5), (strV e6), (Value.bool e7)]⟩)] w K := by kernel_rfl
theorem order_Event_right_ok (e1 : Int) (e2 : Int) (e3 : Int) (e4 : List UInt8) (e5 : List UInt8) (e6 : List UInt8) (e7 : Bool) {w : World} {R : Ending → World → Prop} (h : order_Event_right e1 e2 e3 e4 e5 e6 e7 w fun v w' => R (.returned v) w') : Calls Tryd.prog fn_order_Event_right ⟨[(Value.agg ⟨[(Value.int .i64 e1), (Value.int .i64 e2), (Value.int .i64 e3), (strV e4), (strV e5), (strV e6), (Value.bool e7)]⟩)]⟩ w R :=
  calls_of_den callB_ok mixed Tryd.func19 (order_Event_right_eq e1 e2 e3 e4 e5 e6 e7 w _ ▸ h)

/-- (tidewater/order.Event).do -/
def order_Event_do (e1 : Int) (e2 : Int) (e3 : Int) (e4 : List UInt8) (e5 : List UInt8) (e6 : List UInt8) (e7 : Bool) (t8 : Option Nat) (w : World) (K : Value → World → Prop) : Prop :=
  newS w (.cells ⟨[(Value.int .i64 e1), (Value.int .i64 e2), (Value.int .i64 e3), (strV e4), (strV e5), (strV e6), (Value.bool e7)]⟩ 42) fun r9 w10 =>
  ∃ t11 : List UInt8, World.cell? w10 (⟨r9, 3, none⟩ : Addr) = some (strV t11) ∧
  ∃ es12 : Array MapEntry, mapIs w10 t8 es12 ∧
  ∃ q13 : Option (List UInt8), mapGet .string (strV t11) es12 = some (Option.map (Sh.v Sh.str) q13) ∧
  ∃ n14 : Int, World.cell? w10 (⟨r9, 2, none⟩ : Addr) = some (Value.int .i64 n14) ∧
  BIf (decide (n14 = (1 : Int))) (
    ∃ t15 : List UInt8, World.cell? w10 (⟨r9, 3, none⟩ : Addr) = some (strV t15) ∧
    ∃ t16 : List UInt8, World.cell? w10 (⟨r9, 4, none⟩ : Addr) = some (strV t16) ∧
    ∃ (mb17 : Nat) (es18 : Array MapEntry) (ck19 : Nat) (es20 : Array MapEntry) (ck21 : Nat), t8 = some mb17 ∧ (World.heap (w10))[mb17]? = some (.map es18 ck19) ∧ mapPut .string (strV t15) (strV t16) es18 ck19 = some (es20, ck21) ∧ ∀ w22 : World, w22 = setObjW w10 mb17 (.map es20 ck21) →
    K (Value.bool true) w22) (
    BIf (decide (n14 = (2 : Int))) (
      ∃ t23 : List UInt8, World.cell? w10 (⟨r9, 3, none⟩ : Addr) = some (strV t23) ∧
      ∃ (mb24 : Nat) (es25 : Array MapEntry) (ck26 : Nat) (es27 : Array MapEntry), t8 = some mb24 ∧ (World.heap (w10))[mb24]? = some (.map es25 ck26) ∧ mapDel .string (strV t23) es25 = some es27 ∧ ∀ w28 : World, w28 = setObjW w10 mb24 (.map es27 ck26) →
      ∃ b29 : Bool, World.cell? w28 (⟨r9, 6, none⟩ : Addr) = some (Value.bool b29) ∧
      K (Value.bool (b29 == (Option.isSome q13))) w28) (
      BIf (decide (n14 = (3 : Int))) (
        BIf (Option.isSome q13) (
          ∃ t30 : List UInt8, World.cell? w10 (⟨r9, 5, none⟩ : Addr) = some (strV t30) ∧
          BIf (decide ((Option.getD q13 []) = t30)) (
            ∃ t31 : List UInt8, World.cell? w10 (⟨r9, 3, none⟩ : Addr) = some (strV t31) ∧
            ∃ t32 : List UInt8, World.cell? w10 (⟨r9, 4, none⟩ : Addr) = some (strV t32) ∧
            ∃ (mb33 : Nat) (es34 : Array MapEntry) (ck35 : Nat) (es36 : Array MapEntry) (ck37 : Nat), t8 = some mb33 ∧ (World.heap (w10))[mb33]? = some (.map es34 ck35) ∧ mapPut .string (strV t31) (strV t32) es34 ck35 = some (es36, ck37) ∧ ∀ w38 : World, w38 = setObjW w10 mb33 (.map es36 ck37) →
            ∃ b39 : Bool, World.cell? w38 (⟨r9, 6, none⟩ : Addr) = some (Value.bool b39) ∧
            K (Value.bool (b39 == (decide ((Option.getD q13 []) = t30)))) w38) (
            ∃ b40 : Bool, World.cell? w10 (⟨r9, 6, none⟩ : Addr) = some (Value.bool b40) ∧
            K (Value.bool (b40 == (decide ((Option.getD q13 []) = t30)))) w10)) (
          ∃ b41 : Bool, World.cell? w10 (⟨r9, 6, none⟩ : Addr) = some (Value.bool b41) ∧
          K (Value.bool (b41 == false)) w10)) (
        ∃ b42 : Bool, World.cell? w10 (⟨r9, 6, none⟩ : Addr) = some (Value.bool b42) ∧
        BIf (b42 == (Option.isSome q13)) (
          BIf (!(Option.isSome q13)) (
            K (Value.bool true) w10) (
            ∃ t43 : List UInt8, World.cell? w10 (⟨r9, 4, none⟩ : Addr) = some (strV t43) ∧
            K (Value.bool (decide ((Option.getD q13 []) = t43))) w10)) (
          K (Value.bool false) w10))))

theorem order_Event_do_eq (e1 : Int) (e2 : Int) (e3 : Int) (e4 : List UInt8) (e5 : List UInt8) (e6 : List UInt8) (e7 : Bool) (t8 : Option Nat) (w : World) (K : Value → World → Prop) : order_Event_do e1 e2 e3 e4 e5 e6 e7 t8 w K = denF Tryd.prog callB Tryd.f25 .none [(Value.agg ⟨[(Value.int .i64 e1), (Value.int .i64 e2), (Value.int .i64 e3), (strV e4), (strV e5), (strV e6), (Value.bool e7)]⟩), (Value.map t8)] w K := by kernel_rfl
theorem order_Event_do_ok (e1 : Int) (e2 : Int) (e3 : Int) (e4 : List UInt8) (e5 : List UInt8) (e6 : List UInt8) (e7 : Bool) (t8 : Option Nat) {w : World} {R : Ending → World → Prop} (h : order_Event_do e1 e2 e3 e4 e5 e6 e7 t8 w fun v w' => R (.returned v) w') : Calls Tryd.prog fn_order_Event_do ⟨[(Value.agg ⟨[(Value.int .i64 e1), (Value.int .i64 e2), (Value.int .i64 e3), (strV e4), (strV e5), (strV e6), (Value.bool e7)]⟩), (Value.map t8)]⟩ w R :=
  calls_of_den callB_ok mixed Tryd.func25 (order_Event_do_eq e1 e2 e3 e4 e5 e6 e7 t8 w _ ▸ h)

/-- tidewater/order.Check -/
def order_Check (list1 : Slc) (order2 : Slc) (w : World) (K : Value → World → Prop) : Prop :=
  0 ≤ ((list1.l : Nat) : Int) ∧ ((list1.l : Nat) : Int) ≤ ((list1.l : Nat) : Int) ∧ ((list1.l : Nat) : Int) ≤ 2 ^ 30 ∧
  newS w (.cells ⟨repl list1.l [(Value.bool false)]⟩ 4) fun r3 w4 =>
  newS w4 (.map #[] 0) fun r5 w6 =>
  BIf (!decide (((order2.l : Nat) : Int) = ((list1.l : Nat) : Int))) (
    K (Value.bool false) w6) (
    ∃ (I7 : (Int) → World → Prop) (mu8 : (Int) → World → Nat), I7 ((0 : Int)) w6 ∧ (
    ∀ i9 : Int, ∀ w10 : World, I7 i9 w10 → ∀ u11 u12 u13 u14 u15 u16 u17 u18 u19 u20 u21 u22 u23 u24 u25 u26 u27 u28 u29 u30 u31 u32 u33 u34 u35 u36 u37 u38 u39 u40 u41 u42 u43 u44 u45 u46 u47 u48 u49 u50 u51 u52 u53 u54 u55 u56 u57 u58 u59 u60 u61 u62 u63 u64 u65 u66 u67 u68 u69 u70 u71 u72 u73 u74 u75 u76 u77 u78 u79 u80 u81 u82 : Value,
      BIf (decide (i9 < ((order2.l : Nat) : Int))) (
        needSome order2.p fun a83 =>
        0 ≤ i9 ∧ i9 < ((order2.l : Nat) : Int) ∧
        ∃ n84 : Int, World.cell? w10 (Addr.add a83 ((Int.toNat i9) * 1)) = some (Value.int .i64 n84) ∧
        ∃ J85 : World → Prop,
        (
          BIf (decide (n84 < (0 : Int))) (
            K (Value.bool false) w10) (
            BIf (decide (((list1.l : Nat) : Int) ≤ n84)) (
              K (Value.bool false) w10) (
              0 ≤ n84 ∧ n84 < ((list1.l : Nat) : Int) ∧
              ∃ b86 : Bool, World.cell? w10 (Addr.add (⟨r3, 0, none⟩ : Addr) ((Int.toNat n84) * 1)) = some (Value.bool b86) ∧
              BIf b86 (
                K (Value.bool false) w10) (
                needSome list1.p fun a87 =>
                0 ≤ n84 ∧ n84 < ((list1.l : Nat) : Int) ∧
                ∃ n88 : Int, ∃ n89 : Int, ∃ n90 : Int, ∃ t91 : List UInt8, ∃ t92 : List UInt8, ∃ t93 : List UInt8, ∃ b94 : Bool, rowAt w10 (Addr.add a87 ((Int.toNat n84) * 7)) 0 [(Value.int .i64 n88), (Value.int .i64 n89), (Value.int .i64 n90), (strV t91), (strV t92), (strV t93), (Value.bool b94)] ∧
                Calls Tryd.prog fn_order_Event_right ⟨[(Value.agg ⟨[(Value.int .i64 n88), (Value.int .i64 n89), (Value.int .i64 n90), (strV t91), (strV t92), (strV t93), (Value.bool b94)]⟩)]⟩ w10 fun e95 w96 =>
                ∃ b97 : Bool, e95 = .returned (Value.bool b97) ∧
                BIf (!b97) (
                  K (Value.bool false) w96) (
                  J85 w96))))) ∧ (
        ∀ w98 : World, J85 w98 → ∀ u99 u100 u101 u102 u103 u104 u105 u106 u107 u108 u109 u110 u111 u112 u113 u114 u115 u116 u117 u118 u119 u120 u121 : Value,
          0 ≤ n84 ∧ n84 < ((list1.l : Nat) : Int) ∧
          canW w98 (Addr.add (⟨r3, 0, none⟩ : Addr) ((Int.toNat n84) * 1)) 1 ∧ ∀ w122 : World, w122 = World.setCell w98 (Addr.add (⟨r3, 0, none⟩ : Addr) ((Int.toNat n84) * 1)) (Value.bool true) →
          inR .i64 (i9 + (1 : Int)) ∧
          0 ≤ (i9 + (1 : Int)) ∧ (i9 + (1 : Int)) ≤ ((order2.l : Nat) : Int) ∧ ((order2.l : Nat) : Int) ≤ ((order2.c : Nat) : Int) ∧ ((order2.c : Nat) : Int) ≤ ((order2.c : Nat) : Int) ∧
          ∃ (I124 : (Int) → World → Prop) (mu125 : (Int) → World → Nat), I124 ((0 : Int)) w122 ∧ (
          ∀ i126 : Int, ∀ w127 : World, I124 i126 w127 → ∀ u128 u129 u130 u131 u132 u133 u134 u135 u136 u137 u138 u139 u140 u141 u142 u143 u144 u145 u146 u147 u148 u149 u150 u151 u152 u153 u154 : Value,
            BIf (decide (i126 < (((Slc.sub order2 1 (Int.toNat (i9 + (1 : Int))) order2.l order2.c).l : Nat) : Int))) (
              needSome (Slc.sub order2 1 (Int.toNat (i9 + (1 : Int))) order2.l order2.c).p fun a155 =>
              0 ≤ i126 ∧ i126 < (((Slc.sub order2 1 (Int.toNat (i9 + (1 : Int))) order2.l order2.c).l : Nat) : Int) ∧
              ∃ n156 : Int, World.cell? w127 (Addr.add a155 ((Int.toNat i126) * 1)) = some (Value.int .i64 n156) ∧
              BIf (decide ((0 : Int) ≤ n156)) (
                BIf (decide (n156 < ((list1.l : Nat) : Int))) (
                  needSome list1.p fun a157 =>
                  0 ≤ n156 ∧ n156 < ((list1.l : Nat) : Int) ∧
                  ∃ n158 : Int, World.cell? (World.drew w127) ((Addr.add a157 ((Int.toNat n156) * 7)).add 1) = some (Value.int .i64 n158) ∧
                  needSome list1.p fun a159 =>
                  0 ≤ n84 ∧ n84 < ((list1.l : Nat) : Int) ∧
                  ∃ n160 : Int, World.cell? (World.drew w127) (Addr.add a159 ((Int.toNat n84) * 7)) = some (Value.int .i64 n160) ∧
                  BIf (decide (n158 < n160)) (
                    K (Value.bool false) (World.drew w127)) (
                    inR .i64 (i126 + (1 : Int)) ∧
                    (I124 ((i126 + (1 : Int))) (World.drew w127) ∧ mu125 ((i126 + (1 : Int))) (World.drew w127) < mu125 i126 w127))) (
                  inR .i64 (i126 + (1 : Int)) ∧
                  (I124 ((i126 + (1 : Int))) (World.drew w127) ∧ mu125 ((i126 + (1 : Int))) (World.drew w127) < mu125 i126 w127))) (
                inR .i64 (i126 + (1 : Int)) ∧
                (I124 ((i126 + (1 : Int))) (World.drew w127) ∧ mu125 ((i126 + (1 : Int))) (World.drew w127) < mu125 i126 w127))) (
              needSome list1.p fun a161 =>
              0 ≤ n84 ∧ n84 < ((list1.l : Nat) : Int) ∧
              ∃ n162 : Int, ∃ n163 : Int, ∃ n164 : Int, ∃ t165 : List UInt8, ∃ t166 : List UInt8, ∃ t167 : List UInt8, ∃ b168 : Bool, rowAt w127 (Addr.add a161 ((Int.toNat n84) * 7)) 0 [(Value.int .i64 n162), (Value.int .i64 n163), (Value.int .i64 n164), (strV t165), (strV t166), (strV t167), (Value.bool b168)] ∧
              Calls Tryd.prog fn_order_Event_do ⟨[(Value.agg ⟨[(Value.int .i64 n162), (Value.int .i64 n163), (Value.int .i64 n164), (strV t165), (strV t166), (strV t167), (Value.bool b168)]⟩), (Value.map (some r5))]⟩ w127 fun e169 w170 =>
              ∃ b171 : Bool, e169 = .returned (Value.bool b171) ∧
              BIf (!b171) (
                K (Value.bool false) w170) (
                inR .i64 (i9 + (1 : Int)) ∧
                (I7 ((i9 + (1 : Int))) w170 ∧ mu8 ((i9 + (1 : Int))) w170 < mu8 i9 w10)))))) (
        K (Value.bool true) w10)))

theorem order_Check_eq (list1 : Slc) (order2 : Slc) (w : World) (K : Value → World → Prop) : order_Check list1 order2 w K = denF Tryd.prog callB Tryd.f15 (.two .none (.two .none (.two .none (.two .none (.two (.two .none (.one (.loop [(22, (Sh.int .i64))] [4, 7, 8, 10, 23, 24, 25, 26, 27, 28, 29, 30, 31, 32, 33, 34, 35, 36, 37, 38, 39, 40, 41, 42, 43, 44, 45, 46, 47, 48, 49, 50, 51, 52, 53, 54, 55, 56, 57, 58, 59, 60, 61, 62, 63, 64, 65, 66, 67, 68, 69, 70, 71, 72, 73, 74, 75, 76, 77, 78, 79, 80, 81, 82, 83, 84, 85, 86, 87, 88, 89, 90] (.two .none (.two .none (.two (.one (.two .none (.cut [] [4, 27, 28, 29, 30, 31, 32, 33, 34, 35, 36, 37, 38, 39, 40, 41, 42, 43, 44, 45, 46, 47, 48] .none (.two .none (.two (.two .none (.one (.loop [(57, (Sh.int .i64))] [4, 10, 58, 59, 60, 61, 62, 63, 64, 65, 66, 67, 68, 69, 70, 71, 72, 73, 74, 75, 76, 77, 78, 79, 80, 81, 82] .none))) .none))))) .none)))))) .none))))) [(Slc.v list1), (Slc.v order2)] w K := by kernel_rfl
theorem order_Check_ok (list1 : Slc) (order2 : Slc) {w : World} {R : Ending → World → Prop} (h : order_Check list1 order2 w fun v w' => R (.returned v) w') : Calls Tryd.prog fn_order_Check ⟨[(Slc.v list1), (Slc.v order2)]⟩ w R :=
  calls_of_den callB_ok mixed Tryd.func15 (order_Check_eq list1 order2 w _ ▸ h)

/-- (*tidewater/order.search).may -/
def order_search_may (s1 : Option Addr) (n2 : Int) (w : World) (K : Value → World → Prop) : Prop :=
  needSome s1 fun a3 =>
  ∃ s4 : Slc, World.cell? w (a3.add 1) = some (Slc.v s4) ∧
  needSome s4.p fun a5 =>
  0 ≤ n2 ∧ n2 < ((s4.l : Nat) : Int) ∧
  ∃ b6 : Bool, World.cell? w (Addr.add a5 ((Int.toNat n2) * 1)) = some (Value.bool b6) ∧
  BIf b6 (
    K (Value.bool false) w) (
    needSome s1 fun a7 =>
    ∃ s8 : Slc, World.cell? w a7 = some (Slc.v s8) ∧
    ∃ (I9 : (Int) → World → Prop) (mu10 : (Int) → World → Nat), I9 ((0 : Int)) w ∧ (
    ∀ i11 : Int, ∀ w12 : World, I9 i11 w12 → ∀ u13 u14 u15 u16 u17 u18 u19 u20 u21 u22 u23 u24 u25 u26 u27 u28 u29 u30 u31 u32 u33 u34 u35 u36 u37 u38 u39 u40 u41 : Value,
      BIf (decide (i11 < ((s8.l : Nat) : Int))) (
        needSome s8.p fun a42 =>
        0 ≤ i11 ∧ i11 < ((s8.l : Nat) : Int) ∧
        ∃ n43 : Int, ∃ n44 : Int, ∃ n45 : Int, ∃ t46 : List UInt8, ∃ t47 : List UInt8, ∃ t48 : List UInt8, ∃ b49 : Bool, rowAt w12 (Addr.add a42 ((Int.toNat i11) * 7)) 0 [(Value.int .i64 n43), (Value.int .i64 n44), (Value.int .i64 n45), (strV t46), (strV t47), (strV t48), (Value.bool b49)] ∧
        newS w12 (.cells ⟨[(Value.int .i64 (0 : Int)), (Value.int .i64 (0 : Int)), (Value.int .i64 (0 : Int)), (strV ([] : List UInt8)), (strV ([] : List UInt8)), (strV ([] : List UInt8)), (Value.bool false)]⟩ 42) fun r50 w51 =>
        canW w51 (⟨r50, 0, none⟩ : Addr) 7 ∧ ∀ w52 : World, w52 = setCells w51 (⟨r50, 0, none⟩ : Addr) 0 [(Value.int .i64 n43), (Value.int .i64 n44), (Value.int .i64 n45), (strV t46), (strV t47), (strV t48), (Value.bool b49)] →
        needSome s1 fun a53 =>
        ∃ s54 : Slc, World.cell? (World.drew w52) (a53.add 1) = some (Slc.v s54) ∧
        needSome s54.p fun a55 =>
        0 ≤ i11 ∧ i11 < ((s54.l : Nat) : Int) ∧
        ∃ b56 : Bool, World.cell? (World.drew w52) (Addr.add a55 ((Int.toNat i11) * 1)) = some (Value.bool b56) ∧
        BIf (!b56) (
          ∃ n57 : Int, World.cell? (World.drew w52) (⟨r50, 1, none⟩ : Addr) = some (Value.int .i64 n57) ∧
          needSome s1 fun a58 =>
          ∃ s59 : Slc, World.cell? (World.drew w52) a58 = some (Slc.v s59) ∧
          needSome s59.p fun a60 =>
          0 ≤ n2 ∧ n2 < ((s59.l : Nat) : Int) ∧
          ∃ n61 : Int, World.cell? (World.drew w52) (Addr.add a60 ((Int.toNat n2) * 7)) = some (Value.int .i64 n61) ∧
          BIf (decide (n57 < n61)) (
            K (Value.bool false) (World.drew w52)) (
            inR .i64 (i11 + (1 : Int)) ∧
            (I9 ((i11 + (1 : Int))) (World.drew w52) ∧ mu10 ((i11 + (1 : Int))) (World.drew w52) < mu10 i11 w12))) (
          inR .i64 (i11 + (1 : Int)) ∧
          (I9 ((i11 + (1 : Int))) (World.drew w52) ∧ mu10 ((i11 + (1 : Int))) (World.drew w52) < mu10 i11 w12))) (
        K (Value.bool true) w12)))

theorem order_search_may_eq (s1 : Option Addr) (n2 : Int) (w : World) (K : Value → World → Prop) : order_search_may s1 n2 w K = denF Tryd.prog callB Tryd.f27 (.two .none (.two .none (.two (.two .none (.one (.loop [(19, (Sh.int .i64))] [4, 5, 6, 20, 21, 22, 23, 24, 25, 26, 27, 28, 29, 30, 31, 32, 33, 34, 35, 36, 37, 38, 39, 40, 41, 42, 43, 44, 45] .none))) .none))) [(Value.pointer s1), (Value.int .i64 n2)] w K := by kernel_rfl
theorem order_search_may_ok (s1 : Option Addr) (n2 : Int) {w : World} {R : Ending → World → Prop} (h : order_search_may s1 n2 w fun v w' => R (.returned v) w') : Calls Tryd.prog fn_order_search_may ⟨[(Value.pointer s1), (Value.int .i64 n2)]⟩ w R :=
  calls_of_den callB_ok mixed Tryd.func27 (order_search_may_eq s1 n2 w _ ▸ h)

/-- tidewater/order.Find$1 -/
def order_Find_1 (e1 : Int) (e2 : Int) (e3 : Int) (e4 : List UInt8) (e5 : List UInt8) (e6 : List UInt8) (e7 : Bool) (w : World) (K : Value → World → Prop) : Prop :=
  newS w (.cells ⟨[(Value.int .i64 e1), (Value.int .i64 e2), (Value.int .i64 e3), (strV e4), (strV e5), (strV e6), (Value.bool e7)]⟩ 42) fun r8 w9 =>
  ∃ n10 : Int, ∃ n11 : Int, ∃ n12 : Int, ∃ t13 : List UInt8, ∃ t14 : List UInt8, ∃ t15 : List UInt8, ∃ b16 : Bool, rowAt w9 (⟨r8, 0, none⟩ : Addr) 0 [(Value.int .i64 n10), (Value.int .i64 n11), (Value.int .i64 n12), (strV t13), (strV t14), (strV t15), (Value.bool b16)] ∧
  Calls Tryd.prog fn_order_Event_right ⟨[(Value.agg ⟨[(Value.int .i64 n10), (Value.int .i64 n11), (Value.int .i64 n12), (strV t13), (strV t14), (strV t15), (Value.bool b16)]⟩)]⟩ w9 fun e17 w18 =>
  ∃ b19 : Bool, e17 = .returned (Value.bool b19) ∧
  K (Value.bool (!b19)) w18

theorem order_Find_1_eq (e1 : Int) (e2 : Int) (e3 : Int) (e4 : List UInt8) (e5 : List UInt8) (e6 : List UInt8) (e7 : Bool) (w : World) (K : Value → World → Prop) : order_Find_1 e1 e2 e3 e4 e5 e6 e7 w K = denF Tryd.prog callB Tryd.f18 .none [(Value.agg ⟨[(Value.int .i64 e1), (Value.int .i64 e2), (Value.int .i64 e3), (strV e4), (strV e5), (strV e6), (Value.bool e7)]⟩)] w K := by kernel_rfl
theorem order_Find_1_ok (e1 : Int) (e2 : Int) (e3 : Int) (e4 : List UInt8) (e5 : List UInt8) (e6 : List UInt8) (e7 : Bool) {w : World} {R : Ending → World → Prop} (h : order_Find_1 e1 e2 e3 e4 e5 e6 e7 w fun v w' => R (.returned v) w') : Calls Tryd.prog fn_order_Find_1 ⟨[(Value.agg ⟨[(Value.int .i64 e1), (Value.int .i64 e2), (Value.int .i64 e3), (strV e4), (strV e5), (strV e6), (Value.bool e7)]⟩)]⟩ w R :=
  calls_of_den callB_ok mixed Tryd.func18 (order_Find_1_eq e1 e2 e3 e4 e5 e6 e7 w _ ▸ h)

/-- tidewater/order.Most$1 -/
def order_Most_1 (e1 : Int) (e2 : Int) (e3 : Int) (e4 : List UInt8) (e5 : List UInt8) (e6 : List UInt8) (e7 : Bool) (w : World) (K : Value → World → Prop) : Prop :=
  newS w (.cells ⟨[(Value.int .i64 e1), (Value.int .i64 e2), (Value.int .i64 e3), (strV e4), (strV e5), (strV e6), (Value.bool e7)]⟩ 42) fun r8 w9 =>
  ∃ n10 : Int, ∃ n11 : Int, ∃ n12 : Int, ∃ t13 : List UInt8, ∃ t14 : List UInt8, ∃ t15 : List UInt8, ∃ b16 : Bool, rowAt w9 (⟨r8, 0, none⟩ : Addr) 0 [(Value.int .i64 n10), (Value.int .i64 n11), (Value.int .i64 n12), (strV t13), (strV t14), (strV t15), (Value.bool b16)] ∧
  Calls Tryd.prog fn_order_Event_right ⟨[(Value.agg ⟨[(Value.int .i64 n10), (Value.int .i64 n11), (Value.int .i64 n12), (strV t13), (strV t14), (strV t15), (Value.bool b16)]⟩)]⟩ w9 fun e17 w18 =>
  ∃ b19 : Bool, e17 = .returned (Value.bool b19) ∧
  K (Value.bool (!b19)) w18

theorem order_Most_1_eq (e1 : Int) (e2 : Int) (e3 : Int) (e4 : List UInt8) (e5 : List UInt8) (e6 : List UInt8) (e7 : Bool) (w : World) (K : Value → World → Prop) : order_Most_1 e1 e2 e3 e4 e5 e6 e7 w K = denF Tryd.prog callB Tryd.f23 .none [(Value.agg ⟨[(Value.int .i64 e1), (Value.int .i64 e2), (Value.int .i64 e3), (strV e4), (strV e5), (strV e6), (Value.bool e7)]⟩)] w K := by kernel_rfl
theorem order_Most_1_ok (e1 : Int) (e2 : Int) (e3 : Int) (e4 : List UInt8) (e5 : List UInt8) (e6 : List UInt8) (e7 : Bool) {w : World} {R : Ending → World → Prop} (h : order_Most_1 e1 e2 e3 e4 e5 e6 e7 w fun v w' => R (.returned v) w') : Calls Tryd.prog fn_order_Most_1 ⟨[(Value.agg ⟨[(Value.int .i64 e1), (Value.int .i64 e2), (Value.int .i64 e3), (strV e4), (strV e5), (strV e6), (Value.bool e7)]⟩)]⟩ w R :=
  calls_of_den callB_ok mixed Tryd.func23 (order_Most_1_eq e1 e2 e3 e4 e5 e6 e7 w _ ▸ h)

/-- slices.ContainsFunc[[]tidewater/order.Event,tidewater/order.Event] -/
def slices_ContainsFunc_Event_order_Find_1 (s1 : Slc) (w : World) (K : Value → World → Prop) : Prop :=
  Calls Tryd.prog fn_slices_IndexFunc_Event ⟨[(Slc.v s1), (Value.func (.func 18) ⟨[]⟩ ⟨[]⟩)]⟩ w fun e2 w3 =>
  ∃ n4 : Int, e2 = .returned (Value.int .i64 n4) ∧
  K (Value.bool (decide ((0 : Int) ≤ n4))) w3

theorem slices_ContainsFunc_Event_order_Find_1_eq (s1 : Slc) (w : World) (K : Value → World → Prop) : slices_ContainsFunc_Event_order_Find_1 s1 w K = denF Tryd.prog callB Tryd.f17 .none [(Slc.v s1), (Value.func (.func 18) ⟨[]⟩ ⟨[]⟩)] w K := by kernel_rfl
theorem slices_ContainsFunc_Event_order_Find_1_ok (s1 : Slc) {w : World} {R : Ending → World → Prop} (h : slices_ContainsFunc_Event_order_Find_1 s1 w fun v w' => R (.returned v) w') : Calls Tryd.prog fn_slices_ContainsFunc_Event ⟨[(Slc.v s1), (Value.func (.func 18) ⟨[]⟩ ⟨[]⟩)]⟩ w R :=
  calls_of_den callB_ok mixed Tryd.func17 (slices_ContainsFunc_Event_order_Find_1_eq s1 w _ ▸ h)

/-- slices.IndexFunc[[]tidewater/order.Event,tidewater/order.Event] -/
def slices_IndexFunc_Event_order_Most_1 (s1 : Slc) (w : World) (K : Value → World → Prop) : Prop :=
  ∃ (I2 : (Int) → World → Prop) (mu3 : (Int) → World → Nat), I2 ((0 : Int)) w ∧ (
  ∀ i4 : Int, ∀ w5 : World, I2 i4 w5 → ∀ u6 u7 u8 u9 u10 u11 u12 u13 u14 u15 u16 u17 : Value,
    BIf (decide (i4 < ((s1.l : Nat) : Int))) (
      needSome s1.p fun a18 =>
      0 ≤ i4 ∧ i4 < ((s1.l : Nat) : Int) ∧
      ∃ n19 : Int, ∃ n20 : Int, ∃ n21 : Int, ∃ t22 : List UInt8, ∃ t23 : List UInt8, ∃ t24 : List UInt8, ∃ b25 : Bool, rowAt w5 (Addr.add a18 ((Int.toNat i4) * 7)) 0 [(Value.int .i64 n19), (Value.int .i64 n20), (Value.int .i64 n21), (strV t22), (strV t23), (strV t24), (Value.bool b25)] ∧
      Calls Tryd.prog fn_order_Most_1 ⟨[(Value.agg ⟨[(Value.int .i64 n19), (Value.int .i64 n20), (Value.int .i64 n21), (strV t22), (strV t23), (strV t24), (Value.bool b25)]⟩)]⟩ w5 fun e26 w27 =>
      ∃ b28 : Bool, e26 = .returned (Value.bool b28) ∧
      BIf b28 (
        K (Value.int .i64 i4) w27) (
        inR .i64 (i4 + (1 : Int)) ∧
        (I2 ((i4 + (1 : Int))) w27 ∧ mu3 ((i4 + (1 : Int))) w27 < mu3 i4 w5))) (
      K (Value.int .i64 (-1 : Int)) w5))

theorem slices_IndexFunc_Event_order_Most_1_eq (s1 : Slc) (w : World) (K : Value → World → Prop) : slices_IndexFunc_Event_order_Most_1 s1 w K = denF Tryd.prog callB Tryd.f22 (.two .none (.two (.two .none (.one (.loop [(8, (Sh.int .i64))] [4, 5, 9, 10, 11, 12, 13, 14, 15, 16, 17, 18] .none))) .none)) [(Slc.v s1), (Value.func (.func 23) ⟨[]⟩ ⟨[]⟩)] w K := by kernel_rfl
theorem slices_IndexFunc_Event_order_Most_1_ok (s1 : Slc) {w : World} {R : Ending → World → Prop} (h : slices_IndexFunc_Event_order_Most_1 s1 w fun v w' => R (.returned v) w') : Calls Tryd.prog fn_slices_IndexFunc_Event ⟨[(Slc.v s1), (Value.func (.func 23) ⟨[]⟩ ⟨[]⟩)]⟩ w R :=
  calls_of_den callB_ok mixed Tryd.func22 (slices_IndexFunc_Event_order_Most_1_eq s1 w _ ▸ h)

/-- slices.IndexFunc[[]tidewater/order.Event,tidewater/order.Event] -/
def slices_IndexFunc_Event_order_Find_1 (s1 : Slc) (w : World) (K : Value → World → Prop) : Prop :=
  ∃ (I2 : (Int) → World → Prop) (mu3 : (Int) → World → Nat), I2 ((0 : Int)) w ∧ (
  ∀ i4 : Int, ∀ w5 : World, I2 i4 w5 → ∀ u6 u7 u8 u9 u10 u11 u12 u13 u14 u15 u16 u17 : Value,
    BIf (decide (i4 < ((s1.l : Nat) : Int))) (
      needSome s1.p fun a18 =>
      0 ≤ i4 ∧ i4 < ((s1.l : Nat) : Int) ∧
      ∃ n19 : Int, ∃ n20 : Int, ∃ n21 : Int, ∃ t22 : List UInt8, ∃ t23 : List UInt8, ∃ t24 : List UInt8, ∃ b25 : Bool, rowAt w5 (Addr.add a18 ((Int.toNat i4) * 7)) 0 [(Value.int .i64 n19), (Value.int .i64 n20), (Value.int .i64 n21), (strV t22), (strV t23), (strV t24), (Value.bool b25)] ∧
      Calls Tryd.prog fn_order_Find_1 ⟨[(Value.agg ⟨[(Value.int .i64 n19), (Value.int .i64 n20), (Value.int .i64 n21), (strV t22), (strV t23), (strV t24), (Value.bool b25)]⟩)]⟩ w5 fun e26 w27 =>
      ∃ b28 : Bool, e26 = .returned (Value.bool b28) ∧
      BIf b28 (
        K (Value.int .i64 i4) w27) (
        inR .i64 (i4 + (1 : Int)) ∧
        (I2 ((i4 + (1 : Int))) w27 ∧ mu3 ((i4 + (1 : Int))) w27 < mu3 i4 w5))) (
      K (Value.int .i64 (-1 : Int)) w5))

theorem slices_IndexFunc_Event_order_Find_1_eq (s1 : Slc) (w : World) (K : Value → World → Prop) : slices_IndexFunc_Event_order_Find_1 s1 w K = denF Tryd.prog callB Tryd.f22 (.two .none (.two (.two .none (.one (.loop [(8, (Sh.int .i64))] [4, 5, 9, 10, 11, 12, 13, 14, 15, 16, 17, 18] .none))) .none)) [(Slc.v s1), (Value.func (.func 18) ⟨[]⟩ ⟨[]⟩)] w K := by kernel_rfl
theorem slices_IndexFunc_Event_order_Find_1_ok (s1 : Slc) {w : World} {R : Ending → World → Prop} (h : slices_IndexFunc_Event_order_Find_1 s1 w fun v w' => R (.returned v) w') : Calls Tryd.prog fn_slices_IndexFunc_Event ⟨[(Slc.v s1), (Value.func (.func 18) ⟨[]⟩ ⟨[]⟩)]⟩ w R :=
  calls_of_den callB_ok mixed Tryd.func22 (slices_IndexFunc_Event_order_Find_1_eq s1 w _ ▸ h)

/-- tidewater/order.Most -/
def order_Most (list1 : Slc) (w : World) (K : Value → World → Prop) : Prop :=
  ∃ (J2 : (Int) → World → Prop) (mu3 : (Int) → World → Nat), (
    0 ≤ (0 : Int) ∧ (0 : Int) ≤ (if (12 : Int) < ((list1.l : Nat) : Int) then (12 : Int) else ((list1.l : Nat) : Int)) ∧ (if (12 : Int) < ((list1.l : Nat) : Int) then (12 : Int) else ((list1.l : Nat) : Int)) ≤ ((list1.c : Nat) : Int) ∧ ((list1.c : Nat) : Int) ≤ ((list1.c : Nat) : Int) ∧
    Calls Tryd.prog fn_slices_IndexFunc_Event ⟨[(Slc.v (Slc.sub list1 7 0 (Int.toNat (if (12 : Int) < ((list1.l : Nat) : Int) then (12 : Int) else ((list1.l : Nat) : Int))) list1.c)), (Value.func (.func 23) ⟨[]⟩ ⟨[]⟩)]⟩ w fun e33 w34 =>
    ∃ n35 : Int, e33 = .returned (Value.int .i64 n35) ∧
    BIf (decide ((0 : Int) ≤ n35)) (
      J2 (n35) w34) (
      J2 ((if (12 : Int) < ((list1.l : Nat) : Int) then (12 : Int) else ((list1.l : Nat) : Int))) w34)) ∧ (
  ∀ n4 : Int, ∀ w5 : World, J2 n4 w5 → ∀ u6 u7 u8 u9 u10 u11 u12 u13 u14 u15 u16 u17 u18 u19 u20 u21 u22 u23 u24 u25 u26 u27 u28 u29 u30 u31 : Value,
    0 ≤ (0 : Int) ∧ (0 : Int) ≤ n4 ∧ n4 ≤ ((list1.c : Nat) : Int) ∧ ((list1.c : Nat) : Int) ≤ ((list1.c : Nat) : Int) ∧
    Calls Tryd.prog fn_order_Find ⟨[(Slc.v (Slc.sub list1 7 0 (Int.toNat n4) list1.c))]⟩ w5 fun e37 w38 =>
    ∃ s39 : Slc, ∃ e40 : Value, e37 = .returned (Value.tuple ⟨[(Slc.v s39), e40]⟩) ∧
    isI e40 ∧
    BIf (!isNilI e40) (
      inR .i64 (n4 - (1 : Int)) ∧
      (J2 ((n4 - (1 : Int))) w38 ∧ mu3 ((n4 - (1 : Int))) w38 < mu3 n4 w5)) (
      K (Value.int .i64 n4) w38))

theorem order_Most_eq (list1 : Slc) (w : World) (K : Value → World → Prop) : order_Most list1 w K = denF2 Tryd.prog callB Tryd.f12 (.two .none (.scope 0 [(3, (Sh.int .i64))] [2, 4, 5, 6, 7, 8, 9, 10, 11, 12, 13, 14, 15, 16, 17, 18, 19, 20, 21, 22, 23, 24, 25, 26, 27, 28] .none .none)) [(Slc.v list1)] w K := by kernel_rfl
theorem order_Most_ok (list1 : Slc) {w : World} {R : Ending → World → Prop} (h : order_Most list1 w fun v w' => R (.returned v) w') : Calls Tryd.prog fn_order_Most ⟨[(Slc.v list1)]⟩ w R :=
  calls_of_den2 callB_ok mixed Tryd.func12 (order_Most_eq list1 w _ ▸ h)

/-- tidewater/order.Find -/
def order_Find (list1 : Slc) (w : World) (K : Value → World → Prop) : Prop :=
  BIf (decide ((12 : Int) < ((list1.l : Nat) : Int))) (
    ∃ v2 : Value, World.cell? (World.drew w) (⟨gl_ErrLong, 0, none⟩ : Addr) = some v2 ∧
    K (Value.tuple ⟨[(Slc.v (⟨none, 0, 0⟩ : Slc)), v2]⟩) (World.drew w)) (
    Calls Tryd.prog fn_slices_ContainsFunc_Event ⟨[(Slc.v list1), (Value.func (.func 18) ⟨[]⟩ ⟨[]⟩)]⟩ w fun e3 w4 =>
    ∃ b5 : Bool, e3 = .returned (Value.bool b5) ∧
    BIf b5 (
      ∃ v6 : Value, World.cell? (World.drew w4) (⟨gl_ErrForm, 0, none⟩ : Addr) = some v6 ∧
      K (Value.tuple ⟨[(Slc.v (⟨none, 0, 0⟩ : Slc)), v6]⟩) (World.drew w4)) (
      0 ≤ ((list1.l : Nat) : Int) ∧ ((list1.l : Nat) : Int) ≤ ((list1.l : Nat) : Int) ∧ ((list1.l : Nat) : Int) ≤ 2 ^ 30 ∧
      newS w4 (.cells ⟨repl list1.l [(Value.bool false)]⟩ 4) fun r7 w8 =>
      newS w8 (.cells ⟨[(Slc.v list1), (Slc.v (⟨(some (⟨r7, 0, none⟩ : Addr)), list1.l, list1.l⟩ : Slc)), (Slc.v (⟨none, 0, 0⟩ : Slc))]⟩ 53) fun r9 w10 =>
      newS w10 (.map #[] 0) fun r11 w12 =>
      Calls Tryd.prog fn_order_search_goOn ⟨[(Value.pointer (some (⟨r9, 0, none⟩ : Addr))), (Value.map (some r11))]⟩ w12 fun e13 w14 =>
      ∃ b15 : Bool, e13 = .returned (Value.bool b15) ∧
      BIf (!b15) (
        ∃ v16 : Value, World.cell? (World.drew w14) (⟨gl_ErrClash, 0, none⟩ : Addr) = some v16 ∧
        K (Value.tuple ⟨[(Slc.v (⟨none, 0, 0⟩ : Slc)), v16]⟩) (World.drew w14)) (
        ∃ s17 : Slc, World.cell? w14 (⟨r9, 2, none⟩ : Addr) = some (Slc.v s17) ∧
        K (Value.tuple ⟨[(Slc.v s17), Value.nilIface]⟩) w14)))

theorem order_Find_eq (list1 : Slc) (w : World) (K : Value → World → Prop) : order_Find list1 w K = denF Tryd.prog callB Tryd.f9 .none [(Slc.v list1)] w K := by kernel_rfl
theorem order_Find_ok (list1 : Slc) {w : World} {R : Ending → World → Prop} (h : order_Find list1 w fun v w' => R (.returned v) w') : Calls Tryd.prog fn_order_Find ⟨[(Slc.v list1)]⟩ w R :=
  calls_of_den callB_ok mixed Tryd.func9 (order_Find_eq list1 w _ ▸ h)

/-- maps.Clone[map[string]string,string,string] -/
def maps_Clone_string (m1 : Option Nat) (w : World) (K : Value → World → Prop) : Prop :=
  BIf (Option.isNone (m1 : Option Nat)) (
    K (Value.map none) w) (
    ∃ (m2 : Nat) (es3 : Array MapEntry) (ck4 : Nat), m1 = some m2 ∧ (World.heap w)[m2]? = some (.map es3 ck4) ∧ newS w (.map es3 ck4) fun r5 w6 =>
    ∃ m7 : Option Nat, (Value.iface 46 (Value.map (some r5))) = .iface 46 (Value.map m7) ∧
    K (Value.map m7) w6)

theorem maps_Clone_string_eq (m1 : Option Nat) (w : World) (K : Value → World → Prop) : maps_Clone_string m1 w K = denF Tryd.prog callB Tryd.f28 .none [(Value.map m1)] w K := by kernel_rfl
theorem maps_Clone_string_ok (m1 : Option Nat) {w : World} {R : Ending → World → Prop} (h : maps_Clone_string m1 w fun v w' => R (.returned v) w') : Calls Tryd.prog fn_maps_Clone_string ⟨[(Value.map m1)]⟩ w R :=
  calls_of_den callB_ok mixed Tryd.func28 (maps_Clone_string_eq m1 w _ ▸ h)

/-- (*tidewater/order.search).goOn -/
def order_search_goOn (s1 : Option Addr) (t2 : Option Nat) (w : World) (K : Value → World → Prop) : Prop :=
  needSome s1 fun a3 =>
  ∃ s4 : Slc, World.cell? (World.drew w) (a3.add 2) = some (Slc.v s4) ∧
  needSome s1 fun a5 =>
  ∃ s6 : Slc, World.cell? (World.drew w) a5 = some (Slc.v s6) ∧
  BIf (decide (((s4.l : Nat) : Int) = ((s6.l : Nat) : Int))) (
    K (Value.bool true) (World.drew w)) (
    needSome s1 fun a7 =>
    ∃ s8 : Slc, World.cell? (World.drew w) a7 = some (Slc.v s8) ∧
    ∃ (I9 : (Int) → World → Prop) (mu10 : (Int) → World → Nat), I9 ((0 : Int)) (World.drew w) ∧ (
    ∀ i11 : Int, ∀ w12 : World, I9 i11 w12 → ∀ u13 u14 u15 u16 u17 u18 u19 u20 u21 u22 u23 u24 u25 u26 u27 u28 u29 u30 u31 u32 u33 u34 u35 u36 u37 u38 u39 u40 u41 u42 u43 u44 u45 u46 u47 u48 u49 u50 u51 u52 u53 u54 u55 u56 u57 u58 u59 u60 u61 u62 u63 u64 u65 u66 u67 u68 u69 u70 : Value,
      BIf (decide (i11 < ((s8.l : Nat) : Int))) (
        needSome s8.p fun a71 =>
        0 ≤ i11 ∧ i11 < ((s8.l : Nat) : Int) ∧
        ∃ n72 : Int, ∃ n73 : Int, ∃ n74 : Int, ∃ t75 : List UInt8, ∃ t76 : List UInt8, ∃ t77 : List UInt8, ∃ b78 : Bool, rowAt w12 (Addr.add a71 ((Int.toNat i11) * 7)) 0 [(Value.int .i64 n72), (Value.int .i64 n73), (Value.int .i64 n74), (strV t75), (strV t76), (strV t77), (Value.bool b78)] ∧
        newS w12 (.cells ⟨[(Value.int .i64 (0 : Int)), (Value.int .i64 (0 : Int)), (Value.int .i64 (0 : Int)), (strV ([] : List UInt8)), (strV ([] : List UInt8)), (strV ([] : List UInt8)), (Value.bool false)]⟩ 42) fun r79 w80 =>
        canW w80 (⟨r79, 0, none⟩ : Addr) 7 ∧ ∀ w81 : World, w81 = setCells w80 (⟨r79, 0, none⟩ : Addr) 0 [(Value.int .i64 n72), (Value.int .i64 n73), (Value.int .i64 n74), (strV t75), (strV t76), (strV t77), (Value.bool b78)] →
        Calls Tryd.prog fn_order_search_may ⟨[(Value.pointer s1), (Value.int .i64 i11)]⟩ w81 fun e82 w83 =>
        ∃ b84 : Bool, e82 = .returned (Value.bool b84) ∧
        BIf (!b84) (
          inR .i64 (i11 + (1 : Int)) ∧
          (I9 ((i11 + (1 : Int))) w83 ∧ mu10 ((i11 + (1 : Int))) w83 < mu10 i11 w12)) (
          Calls Tryd.prog fn_maps_Clone_string ⟨[(Value.map t2)]⟩ w83 fun e85 w86 =>
          ∃ m87 : Option Nat, e85 = .returned (Value.map m87) ∧
          ∃ n88 : Int, ∃ n89 : Int, ∃ n90 : Int, ∃ t91 : List UInt8, ∃ t92 : List UInt8, ∃ t93 : List UInt8, ∃ b94 : Bool, rowAt w86 (⟨r79, 0, none⟩ : Addr) 0 [(Value.int .i64 n88), (Value.int .i64 n89), (Value.int .i64 n90), (strV t91), (strV t92), (strV t93), (Value.bool b94)] ∧
          Calls Tryd.prog fn_order_Event_do ⟨[(Value.agg ⟨[(Value.int .i64 n88), (Value.int .i64 n89), (Value.int .i64 n90), (strV t91), (strV t92), (strV t93), (Value.bool b94)]⟩), (Value.map m87)]⟩ w86 fun e95 w96 =>
          ∃ b97 : Bool, e95 = .returned (Value.bool b97) ∧
          BIf (!b97) (
            inR .i64 (i11 + (1 : Int)) ∧
            (I9 ((i11 + (1 : Int))) w96 ∧ mu10 ((i11 + (1 : Int))) w96 < mu10 i11 w12)) (
            needSome s1 fun a98 =>
            ∃ s99 : Slc, World.cell? w96 (a98.add 1) = some (Slc.v s99) ∧
            needSome s99.p fun a100 =>
            0 ≤ i11 ∧ i11 < ((s99.l : Nat) : Int) ∧
            canW w96 (Addr.add a100 ((Int.toNat i11) * 1)) 1 ∧ ∀ w101 : World, w101 = World.setCell w96 (Addr.add a100 ((Int.toNat i11) * 1)) (Value.bool true) →
            needSome s1 fun a102 =>
            ∃ s103 : Slc, World.cell? w101 (a102.add 2) = some (Slc.v s103) ∧
            newS w101 (.cells ⟨[(Value.int .i64 i11)]⟩ 3) fun r104 w105 =>
            appendS 1 3 [(Value.int .i64 (0 : Int))] w105 s103 (.slc (⟨(some (⟨r104, 0, none⟩ : Addr)), 1, 1⟩ : Slc)) fun s106 w107 =>
            needSome s1 fun a108 =>
            canW w107 (a108.add 2) 1 ∧ ∀ w109 : World, w109 = World.setCell w107 (a108.add 2) (Slc.v s106) →
            Calls Tryd.prog fn_order_search_goOn ⟨[(Value.pointer s1), (Value.map m87)]⟩ w109 fun e110 w111 =>
            ∃ b112 : Bool, e110 = .returned (Value.bool b112) ∧
            BIf b112 (
              K (Value.bool true) w111) (
              needSome s1 fun a113 =>
              ∃ s114 : Slc, World.cell? w111 (a113.add 1) = some (Slc.v s114) ∧
              needSome s114.p fun a115 =>
              0 ≤ i11 ∧ i11 < ((s114.l : Nat) : Int) ∧
              canW w111 (Addr.add a115 ((Int.toNat i11) * 1)) 1 ∧ ∀ w116 : World, w116 = World.setCell w111 (Addr.add a115 ((Int.toNat i11) * 1)) (Value.bool false) →
              needSome s1 fun a117 =>
              ∃ s118 : Slc, World.cell? (World.drew w116) (a117.add 2) = some (Slc.v s118) ∧
              needSome s1 fun a119 =>
              ∃ s120 : Slc, World.cell? (World.drew w116) (a119.add 2) = some (Slc.v s120) ∧
              inR .i64 (((s120.l : Nat) : Int) - (1 : Int)) ∧
              0 ≤ (0 : Int) ∧ (0 : Int) ≤ (((s120.l : Nat) : Int) - (1 : Int)) ∧ (((s120.l : Nat) : Int) - (1 : Int)) ≤ ((s118.c : Nat) : Int) ∧ ((s118.c : Nat) : Int) ≤ ((s118.c : Nat) : Int) ∧
              needSome s1 fun a122 =>
              canW (World.drew w116) (a122.add 2) 1 ∧ ∀ w123 : World, w123 = World.setCell (World.drew w116) (a122.add 2) (Slc.v (Slc.sub s118 1 0 (Int.toNat (((s120.l : Nat) : Int) - (1 : Int))) s118.c)) →
              inR .i64 (i11 + (1 : Int)) ∧
              (I9 ((i11 + (1 : Int))) w123 ∧ mu10 ((i11 + (1 : Int))) w123 < mu10 i11 w12))))) (
        K (Value.bool false) w12)))

theorem order_search_goOn_eq (s1 : Option Addr) (t2 : Option Nat) (w : World) (K : Value → World → Prop) : order_search_goOn s1 t2 w K = denF Tryd.prog callB Tryd.f20 (.two .none (.two .none (.two (.two .none (.one (.loop [(24, (Sh.int .i64))] [4, 5, 6, 7, 25, 26, 27, 28, 29, 30, 31, 32, 33, 34, 35, 36, 37, 38, 39, 40, 41, 42, 43, 44, 45, 46, 47, 48, 49, 50, 51, 52, 53, 54, 55, 56, 57, 58, 59, 60, 61, 62, 63, 64, 65, 66, 67, 68, 69, 70, 71, 72, 73, 74, 75, 76, 77, 78] .none))) .none))) [(Value.pointer s1), (Value.map t2)] w K := by kernel_rfl
theorem order_search_goOn_ok (s1 : Option Addr) (t2 : Option Nat) {w : World} {R : Ending → World → Prop} (h : order_search_goOn s1 t2 w fun v w' => R (.returned v) w') : Calls Tryd.prog fn_order_search_goOn ⟨[(Value.pointer s1), (Value.map t2)]⟩ w R :=
  calls_of_den callB_ok mixed Tryd.func20 (order_search_goOn_eq s1 t2 w _ ▸ h)

end Go.D
