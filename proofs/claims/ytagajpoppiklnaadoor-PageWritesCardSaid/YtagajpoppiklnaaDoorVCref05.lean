/-
  WHAT IS PROVED: verification conditions of functions of this program, each with its soundness. No further conditions.
-/
import Derived.Test.YtagajpoppiklnaaDoorBase
set_option linter.unusedSimpArgs false
set_option maxRecDepth 100000
set_option linter.unusedVariables false
namespace Go.D
open Go Go.Proofs
/-- tidewater/tidewaterref05.upto -/
def tidewaterref05_upto (n1 : Int) (most2 : Int) (w : World) (K : Value → World → Prop) : Prop :=
  BIf (decide ((1 : Int) ≤ n1)) (
    K (Value.bool (decide (n1 ≤ most2))) w) (
    K (Value.bool false) w)

theorem tidewaterref05_upto_eq (n1 : Int) (most2 : Int) (w : World) (K : Value → World → Prop) : tidewaterref05_upto n1 most2 w K = denF Tryd.prog callB Tryd.f50 .none [(Value.int .i64 n1), (Value.int .i64 most2)] w K := by kernel_rfl
theorem tidewaterref05_upto_ok (n1 : Int) (most2 : Int) {w : World} {R : Ending → World → Prop} (h : tidewaterref05_upto n1 most2 w fun v w' => R (.returned v) w') : Calls Tryd.prog fn_tidewaterref05_upto ⟨[(Value.int .i64 n1), (Value.int .i64 most2)]⟩ w R :=
  calls_of_den callB_ok mixed Tryd.func50 (tidewaterref05_upto_eq n1 most2 w _ ▸ h)

/-- tidewater/tidewaterref05.key -/
def tidewaterref05_key (s1 : List UInt8) (w : World) (K : Value → World → Prop) : Prop :=
  Calls Tryd.prog fn_tidewaterref02_Key ⟨[(strV s1)]⟩ w fun e2 w3 =>
  ∃ n4 : Int, e2 = .returned (Value.int .i64 n4) ∧
  K (Value.bool (decide (n4 = (0 : Int)))) w3

theorem tidewaterref05_key_eq (s1 : List UInt8) (w : World) (K : Value → World → Prop) : tidewaterref05_key s1 w K = denF Tryd.prog callB Tryd.f51 .none [(strV s1)] w K := by kernel_rfl
theorem tidewaterref05_key_ok (s1 : List UInt8) {w : World} {R : Ending → World → Prop} (h : tidewaterref05_key s1 w fun v w' => R (.returned v) w') : Calls Tryd.prog fn_tidewaterref05_key ⟨[(strV s1)]⟩ w R :=
  calls_of_den callB_ok mixed Tryd.func51 (tidewaterref05_key_eq s1 w _ ▸ h)

/-- tidewater/tidewaterref05.Right -/
def tidewaterref05_Right (e1 : Int) (e2 : Int) (e3 : Int) (e4 : Int) (e5 : Int) (e6 : Int) (e7 : Slc) (e8 : List UInt8) (e9 : Int) (e10 : Int) (e11 : Int) (e12 : Slc) (w : World) (K : Value → World → Prop) : Prop :=
  newS w (.cells ⟨[(Value.int .i64 e1), (Value.int .i64 e2), (Value.int .i64 e3), (Value.int .i64 e4), (Value.int .i64 e5), (Value.int .i64 e6), (Slc.v e7), (strV e8), (Value.int .i64 e9), (Value.int .i64 e10), (Value.int .i64 e11), (Slc.v e12)]⟩ 25) fun r13 w14 =>
  ∃ J15 : (Bool) → World → Prop,
  (
    ∃ n16 : Int, World.cell? w14 (⟨r13, 1, none⟩ : Addr) = some (Value.int .i64 n16) ∧
    Calls Tryd.prog fn_tidewaterref05_upto ⟨[(Value.int .i64 n16), (Value.int .i64 (12 : Int))]⟩ w14 fun e17 w18 =>
    ∃ b19 : Bool, e17 = .returned (Value.bool b19) ∧
    BIf b19 (
      ∃ n20 : Int, World.cell? w18 (⟨r13, 2, none⟩ : Addr) = some (Value.int .i64 n20) ∧
      Calls Tryd.prog fn_tidewaterref05_upto ⟨[(Value.int .i64 n20), (Value.int .i64 (12 : Int))]⟩ w18 fun e21 w22 =>
      ∃ b23 : Bool, e21 = .returned (Value.bool b23) ∧
      BIf b23 (
        ∃ n24 : Int, World.cell? w22 (⟨r13, 1, none⟩ : Addr) = some (Value.int .i64 n24) ∧
        ∃ n25 : Int, World.cell? w22 (⟨r13, 2, none⟩ : Addr) = some (Value.int .i64 n25) ∧
        J15 ((!decide (n24 = n25))) w22) (
        J15 (false) w22)) (
      J15 (false) w18)) ∧ (
  ∀ two26 : Bool, ∀ w27 : World, J15 two26 w27 → ∀ u28 u29 u30 u31 u32 u33 u34 u35 u36 u37 u38 u39 u40 u41 u42 : Value,
    ∃ n43 : Int, World.cell? w27 (⟨r13, 0, none⟩ : Addr) = some (Value.int .i64 n43) ∧
    BIf (decide (n43 = (1 : Int))) (
      ∃ J44 : World → Prop,
      (
        ∃ n45 : Int, World.cell? w27 (⟨r13, 1, none⟩ : Addr) = some (Value.int .i64 n45) ∧
        Calls Tryd.prog fn_tidewaterref05_upto ⟨[(Value.int .i64 n45), (Value.int .i64 (12 : Int))]⟩ w27 fun e46 w47 =>
        ∃ b48 : Bool, e46 = .returned (Value.bool b48) ∧
        BIf (!b48) (
          K (Value.bool false) w47) (
          ∃ n49 : Int, World.cell? w47 (⟨r13, 4, none⟩ : Addr) = some (Value.int .i64 n49) ∧
          Calls Tryd.prog fn_tidewaterref05_upto ⟨[(Value.int .i64 n49), (Value.int .i64 (4 : Int))]⟩ w47 fun e50 w51 =>
          ∃ b52 : Bool, e50 = .returned (Value.bool b52) ∧
          BIf (!b52) (
            K (Value.bool false) w51) (
            ∃ n53 : Int, World.cell? w51 (⟨r13, 5, none⟩ : Addr) = some (Value.int .i64 n53) ∧
            Calls Tryd.prog fn_tidewaterref05_upto ⟨[(Value.int .i64 n53), (Value.int .i64 (1073741824 : Int))]⟩ w51 fun e54 w55 =>
            ∃ b56 : Bool, e54 = .returned (Value.bool b56) ∧
            BIf (!b56) (
              K (Value.bool false) w55) (
              ∃ s57 : Slc, World.cell? w55 (⟨r13, 6, none⟩ : Addr) = some (Slc.v s57) ∧
              Calls Tryd.prog fn_tidewaterref05_upto ⟨[(Value.int .i64 ((s57.l : Nat) : Int)), (Value.int .i64 (8 : Int))]⟩ w55 fun e58 w59 =>
              ∃ b60 : Bool, e58 = .returned (Value.bool b60) ∧
              BIf (!b60) (
                K (Value.bool false) w59) (
                J44 w59))))) ∧ (
      ∀ w61 : World, J44 w61 → ∀ u62 u63 u64 u65 u66 u67 u68 u69 u70 u71 u72 u73 u74 u75 u76 u77 u78 u79 u80 u81 u82 u83 u84 u85 : Value,
        ∃ s86 : Slc, World.cell? w61 (⟨r13, 6, none⟩ : Addr) = some (Slc.v s86) ∧
        ∃ (I87 : (Int) → World → Prop) (mu88 : (Int) → World → Nat), I87 ((0 : Int)) w61 ∧ (
        ∀ i89 : Int, ∀ w90 : World, I87 i89 w90 → ∀ u91 u92 u93 u94 u95 u96 u97 u98 u99 u100 u101 u102 u103 u104 u105 u106 u107 u108 u109 u110 u111 u112 u113 u114 u115 u116 u117 u118 u119 u120 u121 u122 u123 u124 u125 u126 u127 u128 u129 u130 u131 u132 u133 u134 u135 u136 u137 u138 u139 u140 u141 u142 u143 : Value,
          BIf (decide (i89 < ((s86.l : Nat) : Int))) (
            needSome s86.p fun a144 =>
            0 ≤ i89 ∧ i89 < ((s86.l : Nat) : Int) ∧
            ∃ n145 : Int, ∃ t146 : List UInt8, ∃ t147 : List UInt8, ∃ t148 : List UInt8, ∃ n149 : Int, rowAt w90 (Addr.add a144 ((Int.toNat i89) * 5)) 0 [(Value.int .i64 n145), (strV t146), (strV t147), (strV t148), (Value.int .i64 n149)] ∧
            newS w90 (.cells ⟨[(Value.int .i64 (0 : Int)), (strV ([] : List UInt8)), (strV ([] : List UInt8)), (strV ([] : List UInt8)), (Value.int .i64 (0 : Int))]⟩ 50) fun r150 w151 =>
            canW w151 (⟨r150, 0, none⟩ : Addr) 5 ∧ ∀ w152 : World, w152 = setCells w151 (⟨r150, 0, none⟩ : Addr) 0 [(Value.int .i64 n145), (strV t146), (strV t147), (strV t148), (Value.int .i64 n149)] →
            ∃ t153 : List UInt8, World.cell? w152 (⟨r150, 1, none⟩ : Addr) = some (strV t153) ∧
            Calls Tryd.prog fn_tidewaterref05_key ⟨[(strV t153)]⟩ w152 fun e154 w155 =>
            ∃ b156 : Bool, e154 = .returned (Value.bool b156) ∧
            ∃ n157 : Int, World.cell? w155 (⟨r150, 0, none⟩ : Addr) = some (Value.int .i64 n157) ∧
            BIf (decide (n157 = (1 : Int))) (
              BIf b156 (
                ∃ t158 : List UInt8, World.cell? w155 (⟨r150, 2, none⟩ : Addr) = some (strV t158) ∧
                BIf (!(decide ((((List.length t158) : Nat) : Int) ≤ (64 : Int)))) (
                  K (Value.bool false) w155) (
                  inR .i64 (i89 + (1 : Int)) ∧
                  (I87 ((i89 + (1 : Int))) w155 ∧ mu88 ((i89 + (1 : Int))) w155 < mu88 i89 w90))) (
                K (Value.bool false) w155)) (
              BIf (decide (n157 = (2 : Int))) (
                BIf (!b156) (
                  K (Value.bool false) w155) (
                  inR .i64 (i89 + (1 : Int)) ∧
                  (I87 ((i89 + (1 : Int))) w155 ∧ mu88 ((i89 + (1 : Int))) w155 < mu88 i89 w90))) (
                BIf (decide (n157 = (3 : Int))) (
                  BIf b156 (
                    ∃ t159 : List UInt8, World.cell? w155 (⟨r150, 2, none⟩ : Addr) = some (strV t159) ∧
                    BIf (decide ((((List.length t159) : Nat) : Int) ≤ (64 : Int))) (
                      ∃ t160 : List UInt8, World.cell? w155 (⟨r150, 3, none⟩ : Addr) = some (strV t160) ∧
                      BIf (!(decide ((((List.length t160) : Nat) : Int) ≤ (64 : Int)))) (
                        K (Value.bool false) w155) (
                        inR .i64 (i89 + (1 : Int)) ∧
                        (I87 ((i89 + (1 : Int))) w155 ∧ mu88 ((i89 + (1 : Int))) w155 < mu88 i89 w90))) (
                      K (Value.bool false) w155)) (
                    K (Value.bool false) w155)) (
                  BIf (decide (n157 = (4 : Int))) (
                    BIf b156 (
                      ∃ n161 : Int, World.cell? w155 (⟨r150, 4, none⟩ : Addr) = some (Value.int .i64 n161) ∧
                      BIf (decide ((0 : Int) ≤ n161)) (
                        ∃ n162 : Int, World.cell? w155 (⟨r150, 4, none⟩ : Addr) = some (Value.int .i64 n162) ∧
                        BIf (!(decide (n162 ≤ (4096 : Int)))) (
                          K (Value.bool false) w155) (
                          inR .i64 (i89 + (1 : Int)) ∧
                          (I87 ((i89 + (1 : Int))) w155 ∧ mu88 ((i89 + (1 : Int))) w155 < mu88 i89 w90))) (
                        K (Value.bool false) w155)) (
                      K (Value.bool false) w155)) (
                    K (Value.bool false) w155))))) (
            K (Value.bool true) w90)))) (
      BIf (decide (n43 = (2 : Int))) (
        ∃ n163 : Int, World.cell? w27 (⟨r13, 1, none⟩ : Addr) = some (Value.int .i64 n163) ∧
        Calls Tryd.prog fn_tidewaterref05_upto ⟨[(Value.int .i64 n163), (Value.int .i64 (12 : Int))]⟩ w27 fun e164 w165 =>
        ∃ b166 : Bool, e164 = .returned (Value.bool b166) ∧
        BIf b166 (
          ∃ n167 : Int, World.cell? w165 (⟨r13, 3, none⟩ : Addr) = some (Value.int .i64 n167) ∧
          Calls Tryd.prog fn_tidewaterref05_upto ⟨[(Value.int .i64 n167), (Value.int .i64 (4 : Int))]⟩ w165 fun e168 w169 =>
          ∃ b170 : Bool, e168 = .returned (Value.bool b170) ∧
          K (Value.bool b170) w169) (
          K (Value.bool false) w165)) (
        BIf (decide (n43 = (3 : Int))) (
          BIf two26 (
            ∃ n171 : Int, World.cell? w27 (⟨r13, 3, none⟩ : Addr) = some (Value.int .i64 n171) ∧
            Calls Tryd.prog fn_tidewaterref05_upto ⟨[(Value.int .i64 n171), (Value.int .i64 (4 : Int))]⟩ w27 fun e172 w173 =>
            ∃ b174 : Bool, e172 = .returned (Value.bool b174) ∧
            BIf b174 (
              ∃ t175 : List UInt8, World.cell? w173 (⟨r13, 7, none⟩ : Addr) = some (strV t175) ∧
              Calls Tryd.prog fn_tidewaterref05_key ⟨[(strV t175)]⟩ w173 fun e176 w177 =>
              ∃ b178 : Bool, e176 = .returned (Value.bool b178) ∧
              K (Value.bool b178) w177) (
              K (Value.bool false) w173)) (
            K (Value.bool false) w27)) (
          BIf (decide (n43 = (4 : Int))) (
            K (Value.bool two26) w27) (
            BIf (decide (n43 = (5 : Int))) (
              ∃ n179 : Int, World.cell? w27 (⟨r13, 1, none⟩ : Addr) = some (Value.int .i64 n179) ∧
              BIf (decide ((0 : Int) ≤ n179)) (
                ∃ n180 : Int, World.cell? w27 (⟨r13, 1, none⟩ : Addr) = some (Value.int .i64 n180) ∧
                BIf (decide (n180 ≤ (12 : Int))) (
                  ∃ n181 : Int, World.cell? w27 (⟨r13, 8, none⟩ : Addr) = some (Value.int .i64 n181) ∧
                  BIf (decide ((0 : Int) ≤ n181)) (
                    ∃ n182 : Int, World.cell? w27 (⟨r13, 8, none⟩ : Addr) = some (Value.int .i64 n182) ∧
                    BIf (decide (n182 ≤ (4096 : Int))) (
                      ∃ n183 : Int, World.cell? w27 (⟨r13, 10, none⟩ : Addr) = some (Value.int .i64 n183) ∧
                      Calls Tryd.prog fn_tidewaterref05_upto ⟨[(Value.int .i64 n183), (Value.int .i64 (64 : Int))]⟩ w27 fun e184 w185 =>
                      ∃ b186 : Bool, e184 = .returned (Value.bool b186) ∧
                      BIf b186 (
                        ∃ n187 : Int, World.cell? w185 (⟨r13, 9, none⟩ : Addr) = some (Value.int .i64 n187) ∧
                        BIf (decide ((0 : Int) ≤ n187)) (
                          ∃ n188 : Int, World.cell? w185 (⟨r13, 9, none⟩ : Addr) = some (Value.int .i64 n188) ∧
                          ∃ n189 : Int, World.cell? w185 (⟨r13, 10, none⟩ : Addr) = some (Value.int .i64 n189) ∧
                          BIf (decide (n188 < n189)) (
                            ∃ s190 : Slc, World.cell? w185 (⟨r13, 11, none⟩ : Addr) = some (Slc.v s190) ∧
                            K (Value.bool (decide (((s190.l : Nat) : Int) ≤ (256 : Int)))) w185) (
                            K (Value.bool false) w185)) (
                          K (Value.bool false) w185)) (
                        K (Value.bool false) w185)) (
                      K (Value.bool false) w27)) (
                    K (Value.bool false) w27)) (
                  K (Value.bool false) w27)) (
                K (Value.bool false) w27)) (
              K (Value.bool false) w27))))))

theorem tidewaterref05_Right_eq (e1 : Int) (e2 : Int) (e3 : Int) (e4 : Int) (e5 : Int) (e6 : Int) (e7 : Slc) (e8 : List UInt8) (e9 : Int) (e10 : Int) (e11 : Int) (e12 : Slc) (w : World) (K : Value → World → Prop) : tidewaterref05_Right e1 e2 e3 e4 e5 e6 e7 e8 e9 e10 e11 e12 w K = denF Tryd.prog callB Tryd.f34 (.two .none (.cut [(3, Sh.bool)] [7, 8, 9, 10, 11, 12, 13, 14, 15, 16, 17, 18, 19, 20, 21] .none (.two (.two .none (.one (.two .none (.two (.cut [] [2, 26, 27, 28, 29, 30, 31, 32, 33, 34, 35, 36, 37, 38, 39, 40, 41, 42, 43, 44, 45, 46, 47, 48] .none (.two (.two .none (.one (.loop [(52, (Sh.int .i64))] [2, 5, 6, 53, 54, 55, 56, 57, 58, 59, 60, 61, 62, 63, 64, 65, 66, 67, 68, 69, 70, 71, 72, 73, 74, 75, 76, 77, 78, 79, 80, 81, 82, 83, 84, 85, 86, 87, 88, 89, 90, 91, 92, 93, 94, 95, 96, 97, 98, 99, 100, 101, 102] .none))) .none)) .none)))) .none))) [(Value.agg ⟨[(Value.int .i64 e1), (Value.int .i64 e2), (Value.int .i64 e3), (Value.int .i64 e4), (Value.int .i64 e5), (Value.int .i64 e6), (Slc.v e7), (strV e8), (Value.int .i64 e9), (Value.int .i64 e10), (Value.int .i64 e11), (Slc.v e12)]⟩)] w K := by kernel_rfl
theorem tidewaterref05_Right_ok (e1 : Int) (e2 : Int) (e3 : Int) (e4 : Int) (e5 : Int) (e6 : Int) (e7 : Slc) (e8 : List UInt8) (e9 : Int) (e10 : Int) (e11 : Int) (e12 : Slc) {w : World} {R : Ending → World → Prop} (h : tidewaterref05_Right e1 e2 e3 e4 e5 e6 e7 e8 e9 e10 e11 e12 w fun v w' => R (.returned v) w') : Calls Tryd.prog fn_tidewaterref05_Right ⟨[(Value.agg ⟨[(Value.int .i64 e1), (Value.int .i64 e2), (Value.int .i64 e3), (Value.int .i64 e4), (Value.int .i64 e5), (Value.int .i64 e6), (Slc.v e7), (strV e8), (Value.int .i64 e9), (Value.int .i64 e10), (Value.int .i64 e11), (Slc.v e12)]⟩)]⟩ w R :=
  calls_of_den callB_ok mixed Tryd.func34 (tidewaterref05_Right_eq e1 e2 e3 e4 e5 e6 e7 e8 e9 e10 e11 e12 w _ ▸ h)

/-- tidewater/tidewaterref05.Bytes -/
def tidewaterref05_Bytes (e1 : Int) (e2 : Int) (e3 : Int) (e4 : Int) (e5 : Int) (e6 : Int) (e7 : Slc) (e8 : List UInt8) (e9 : Int) (e10 : Int) (e11 : Int) (e12 : Slc) (w : World) (K : Value → World → Prop) : Prop :=
  newS w (.cells ⟨[(Value.int .i64 e1), (Value.int .i64 e2), (Value.int .i64 e3), (Value.int .i64 e4), (Value.int .i64 e5), (Value.int .i64 e6), (Slc.v e7), (strV e8), (Value.int .i64 e9), (Value.int .i64 e10), (Value.int .i64 e11), (Slc.v e12)]⟩ 25) fun r13 w14 =>
  ∃ n15 : Int, World.cell? w14 (⟨r13, 0, none⟩ : Addr) = some (Value.int .i64 n15) ∧
  ∃ n16 : Int, World.cell? w14 (⟨r13, 1, none⟩ : Addr) = some (Value.int .i64 n16) ∧
  newS w14 (.cells ⟨[(Value.int .i64 n15), (Value.int .i64 n16)]⟩ 3) fun r17 w18 =>
  ∃ J19 : (Slc) → World → Prop,
  (
    ∃ n20 : Int, World.cell? w18 (⟨r13, 0, none⟩ : Addr) = some (Value.int .i64 n20) ∧
    BIf (decide (n20 = (1 : Int))) (
      ∃ n21 : Int, World.cell? w18 (⟨r13, 4, none⟩ : Addr) = some (Value.int .i64 n21) ∧
      ∃ n22 : Int, World.cell? w18 (⟨r13, 5, none⟩ : Addr) = some (Value.int .i64 n22) ∧
      ∃ s23 : Slc, World.cell? w18 (⟨r13, 6, none⟩ : Addr) = some (Slc.v s23) ∧
      newS w18 (.cells ⟨[(Value.int .i64 n21), (Value.int .i64 n22), (Value.int .i64 ((s23.l : Nat) : Int))]⟩ 3) fun r24 w25 =>
      appendS 1 3 [(Value.int .i64 (0 : Int))] w25 (⟨(some (⟨r17, 0, none⟩ : Addr)), 2, 2⟩ : Slc) (.slc (⟨(some (⟨r24, 0, none⟩ : Addr)), 3, 3⟩ : Slc)) fun s26 w27 =>
      J19 (s26) w27) (
      BIf (decide (n20 = (2 : Int))) (
        ∃ n28 : Int, World.cell? w18 (⟨r13, 3, none⟩ : Addr) = some (Value.int .i64 n28) ∧
        newS w18 (.cells ⟨[(Value.int .i64 n28)]⟩ 3) fun r29 w30 =>
        appendS 1 3 [(Value.int .i64 (0 : Int))] w30 (⟨(some (⟨r17, 0, none⟩ : Addr)), 2, 2⟩ : Slc) (.slc (⟨(some (⟨r29, 0, none⟩ : Addr)), 1, 1⟩ : Slc)) fun s31 w32 =>
        J19 (s31) w32) (
        BIf (decide (n20 = (3 : Int))) (
          ∃ n33 : Int, World.cell? w18 (⟨r13, 2, none⟩ : Addr) = some (Value.int .i64 n33) ∧
          ∃ n34 : Int, World.cell? w18 (⟨r13, 3, none⟩ : Addr) = some (Value.int .i64 n34) ∧
          newS w18 (.cells ⟨[(Value.int .i64 n33), (Value.int .i64 n34)]⟩ 3) fun r35 w36 =>
          appendS 1 3 [(Value.int .i64 (0 : Int))] w36 (⟨(some (⟨r17, 0, none⟩ : Addr)), 2, 2⟩ : Slc) (.slc (⟨(some (⟨r35, 0, none⟩ : Addr)), 2, 2⟩ : Slc)) fun s37 w38 =>
          J19 (s37) w38) (
          BIf (decide (n20 = (4 : Int))) (
            ∃ n39 : Int, World.cell? w18 (⟨r13, 2, none⟩ : Addr) = some (Value.int .i64 n39) ∧
            newS w18 (.cells ⟨[(Value.int .i64 n39)]⟩ 3) fun r40 w41 =>
            appendS 1 3 [(Value.int .i64 (0 : Int))] w41 (⟨(some (⟨r17, 0, none⟩ : Addr)), 2, 2⟩ : Slc) (.slc (⟨(some (⟨r40, 0, none⟩ : Addr)), 1, 1⟩ : Slc)) fun s42 w43 =>
            J19 (s42) w43) (
            BIf (decide (n20 = (5 : Int))) (
              ∃ n44 : Int, World.cell? w18 (⟨r13, 8, none⟩ : Addr) = some (Value.int .i64 n44) ∧
              ∃ n45 : Int, World.cell? w18 (⟨r13, 10, none⟩ : Addr) = some (Value.int .i64 n45) ∧
              ∃ n46 : Int, World.cell? w18 (⟨r13, 9, none⟩ : Addr) = some (Value.int .i64 n46) ∧
              newS w18 (.cells ⟨[(Value.int .i64 n44), (Value.int .i64 n45), (Value.int .i64 n46)]⟩ 3) fun r47 w48 =>
              appendS 1 3 [(Value.int .i64 (0 : Int))] w48 (⟨(some (⟨r17, 0, none⟩ : Addr)), 2, 2⟩ : Slc) (.slc (⟨(some (⟨r47, 0, none⟩ : Addr)), 3, 3⟩ : Slc)) fun s49 w50 =>
              J19 (s49) w50) (
              J19 ((⟨(some (⟨r17, 0, none⟩ : Addr)), 2, 2⟩ : Slc)) w18)))))) ∧ (
  ∀ l51 : Slc, ∀ w52 : World, J19 l51 w52 → ∀ u53 u54 u55 u56 u57 u58 u59 u60 u61 u62 u63 u64 u65 u66 u67 u68 u69 u70 u71 u72 u73 u74 u75 u76 u77 u78 u79 u80 u81 u82 u83 u84 u85 u86 u87 u88 u89 u90 u91 u92 u93 u94 u95 u96 u97 u98 u99 u100 : Value,
    newS w52 (.cells ⟨[]⟩ 5) fun r101 w102 =>
    ∃ (I103 : (Slc) → (Int) → World → Prop) (mu104 : (Slc) → (Int) → World → Nat), I103 ((⟨(some (⟨r101, 0, none⟩ : Addr)), 0, 0⟩ : Slc)) ((0 : Int)) w102 ∧ (
    ∀ out105 : Slc, ∀ i106 : Int, ∀ w107 : World, I103 out105 i106 w107 → ∀ u108 u109 u110 u111 u112 u113 u114 u115 u116 : Value,
      BIf (decide (i106 < ((l51.l : Nat) : Int))) (
        needSome l51.p fun a117 =>
        0 ≤ i106 ∧ i106 < ((l51.l : Nat) : Int) ∧
        ∃ n118 : Int, World.cell? w107 (Addr.add a117 ((Int.toNat i106) * 1)) = some (Value.int .i64 n118) ∧
        Calls Tryd.prog fn_tidewaterref04_Num ⟨[(Value.int .i64 n118)]⟩ w107 fun e119 w120 =>
        ∃ s121 : Slc, e119 = .returned (Slc.v s121) ∧
        appendS 1 5 [(Value.int .u8 (0 : Int))] w120 out105 (.slc s121) fun s122 w123 =>
        inR .i64 (i106 + (1 : Int)) ∧
        (I103 (s122) ((i106 + (1 : Int))) w123 ∧ mu104 (s122) ((i106 + (1 : Int))) w123 < mu104 out105 i106 w107)) (
        ∃ n124 : Int, World.cell? w107 (⟨r13, 0, none⟩ : Addr) = some (Value.int .i64 n124) ∧
        BIf (decide (n124 = (1 : Int))) (
          ∃ s125 : Slc, World.cell? w107 (⟨r13, 6, none⟩ : Addr) = some (Slc.v s125) ∧
          ∃ (I126 : (Slc) → (Int) → World → Prop) (mu127 : (Slc) → (Int) → World → Nat), I126 (out105) ((0 : Int)) w107 ∧ (
          ∀ out128 : Slc, ∀ i129 : Int, ∀ w130 : World, I126 out128 i129 w130 → ∀ u131 u132 u133 u134 u135 u136 u137 u138 u139 u140 u141 u142 u143 u144 u145 u146 u147 u148 u149 u150 u151 u152 u153 u154 u155 u156 u157 u158 u159 u160 u161 u162 u163 u164 u165 u166 u167 u168 u169 u170 u171 u172 u173 u174 : Value,
            BIf (decide (i129 < ((s125.l : Nat) : Int))) (
              needSome s125.p fun a175 =>
              0 ≤ i129 ∧ i129 < ((s125.l : Nat) : Int) ∧
              ∃ n176 : Int, ∃ t177 : List UInt8, ∃ t178 : List UInt8, ∃ t179 : List UInt8, ∃ n180 : Int, rowAt w130 (Addr.add a175 ((Int.toNat i129) * 5)) 0 [(Value.int .i64 n176), (strV t177), (strV t178), (strV t179), (Value.int .i64 n180)] ∧
              newS w130 (.cells ⟨[(Value.int .i64 (0 : Int)), (strV ([] : List UInt8)), (strV ([] : List UInt8)), (strV ([] : List UInt8)), (Value.int .i64 (0 : Int))]⟩ 50) fun r181 w182 =>
              canW w182 (⟨r181, 0, none⟩ : Addr) 5 ∧ ∀ w183 : World, w183 = setCells w182 (⟨r181, 0, none⟩ : Addr) 0 [(Value.int .i64 n176), (strV t177), (strV t178), (strV t179), (Value.int .i64 n180)] →
              ∃ n184 : Int, World.cell? w183 (⟨r181, 0, none⟩ : Addr) = some (Value.int .i64 n184) ∧
              Calls Tryd.prog fn_tidewaterref04_Num ⟨[(Value.int .i64 n184)]⟩ w183 fun e185 w186 =>
              ∃ s187 : Slc, e185 = .returned (Slc.v s187) ∧
              appendS 1 5 [(Value.int .u8 (0 : Int))] w186 out128 (.slc s187) fun s188 w189 =>
              ∃ t190 : List UInt8, World.cell? w189 (⟨r181, 1, none⟩ : Addr) = some (strV t190) ∧
              Calls Tryd.prog fn_tidewaterref04_Text ⟨[(strV t190)]⟩ w189 fun e191 w192 =>
              ∃ s193 : Slc, e191 = .returned (Slc.v s193) ∧
              appendS 1 5 [(Value.int .u8 (0 : Int))] w192 s188 (.slc s193) fun s194 w195 =>
              ∃ J196 : (Slc) → World → Prop,
              (
                ∃ n197 : Int, World.cell? w195 (⟨r181, 0, none⟩ : Addr) = some (Value.int .i64 n197) ∧
                BIf (decide (n197 = (3 : Int))) (
                  ∃ t198 : List UInt8, World.cell? w195 (⟨r181, 3, none⟩ : Addr) = some (strV t198) ∧
                  Calls Tryd.prog fn_tidewaterref04_Text ⟨[(strV t198)]⟩ w195 fun e199 w200 =>
                  ∃ s201 : Slc, e199 = .returned (Slc.v s201) ∧
                  appendS 1 5 [(Value.int .u8 (0 : Int))] w200 s194 (.slc s201) fun s202 w203 =>
                  J196 (s202) w203) (
                  J196 (s194) w195)) ∧ (
              ∀ out204 : Slc, ∀ w205 : World, J196 out204 w205 → ∀ u206 u207 u208 u209 u210 u211 u212 u213 : Value,
                ∃ n214 : Int, World.cell? w205 (⟨r181, 0, none⟩ : Addr) = some (Value.int .i64 n214) ∧
                BIf (decide (n214 = (1 : Int))) (
                  ∃ t215 : List UInt8, World.cell? w205 (⟨r181, 2, none⟩ : Addr) = some (strV t215) ∧
                  Calls Tryd.prog fn_tidewaterref04_Text ⟨[(strV t215)]⟩ w205 fun e216 w217 =>
                  ∃ s218 : Slc, e216 = .returned (Slc.v s218) ∧
                  appendS 1 5 [(Value.int .u8 (0 : Int))] w217 out204 (.slc s218) fun s219 w220 =>
                  ∃ n221 : Int, World.cell? w220 (⟨r181, 0, none⟩ : Addr) = some (Value.int .i64 n221) ∧
                  BIf (decide (n221 = (4 : Int))) (
                    ∃ n222 : Int, World.cell? w220 (⟨r181, 4, none⟩ : Addr) = some (Value.int .i64 n222) ∧
                    Calls Tryd.prog fn_tidewaterref04_Num ⟨[(Value.int .i64 n222)]⟩ w220 fun e223 w224 =>
                    ∃ s225 : Slc, e223 = .returned (Slc.v s225) ∧
                    appendS 1 5 [(Value.int .u8 (0 : Int))] w224 s219 (.slc s225) fun s226 w227 =>
                    inR .i64 (i129 + (1 : Int)) ∧
                    (I126 (s226) ((i129 + (1 : Int))) w227 ∧ mu127 (s226) ((i129 + (1 : Int))) w227 < mu127 out128 i129 w130)) (
                    inR .i64 (i129 + (1 : Int)) ∧
                    (I126 (s219) ((i129 + (1 : Int))) w220 ∧ mu127 (s219) ((i129 + (1 : Int))) w220 < mu127 out128 i129 w130))) (
                  ∃ n228 : Int, World.cell? w205 (⟨r181, 0, none⟩ : Addr) = some (Value.int .i64 n228) ∧
                  BIf (decide (n228 = (3 : Int))) (
                    ∃ t229 : List UInt8, World.cell? w205 (⟨r181, 2, none⟩ : Addr) = some (strV t229) ∧
                    Calls Tryd.prog fn_tidewaterref04_Text ⟨[(strV t229)]⟩ w205 fun e230 w231 =>
                    ∃ s232 : Slc, e230 = .returned (Slc.v s232) ∧
                    appendS 1 5 [(Value.int .u8 (0 : Int))] w231 out204 (.slc s232) fun s233 w234 =>
                    ∃ n235 : Int, World.cell? w234 (⟨r181, 0, none⟩ : Addr) = some (Value.int .i64 n235) ∧
                    BIf (decide (n235 = (4 : Int))) (
                      ∃ n236 : Int, World.cell? w234 (⟨r181, 4, none⟩ : Addr) = some (Value.int .i64 n236) ∧
                      Calls Tryd.prog fn_tidewaterref04_Num ⟨[(Value.int .i64 n236)]⟩ w234 fun e237 w238 =>
                      ∃ s239 : Slc, e237 = .returned (Slc.v s239) ∧
                      appendS 1 5 [(Value.int .u8 (0 : Int))] w238 s233 (.slc s239) fun s240 w241 =>
                      inR .i64 (i129 + (1 : Int)) ∧
                      (I126 (s240) ((i129 + (1 : Int))) w241 ∧ mu127 (s240) ((i129 + (1 : Int))) w241 < mu127 out128 i129 w130)) (
                      inR .i64 (i129 + (1 : Int)) ∧
                      (I126 (s233) ((i129 + (1 : Int))) w234 ∧ mu127 (s233) ((i129 + (1 : Int))) w234 < mu127 out128 i129 w130))) (
                    ∃ n242 : Int, World.cell? w205 (⟨r181, 0, none⟩ : Addr) = some (Value.int .i64 n242) ∧
                    BIf (decide (n242 = (4 : Int))) (
                      ∃ n243 : Int, World.cell? w205 (⟨r181, 4, none⟩ : Addr) = some (Value.int .i64 n243) ∧
                      Calls Tryd.prog fn_tidewaterref04_Num ⟨[(Value.int .i64 n243)]⟩ w205 fun e244 w245 =>
                      ∃ s246 : Slc, e244 = .returned (Slc.v s246) ∧
                      appendS 1 5 [(Value.int .u8 (0 : Int))] w245 out204 (.slc s246) fun s247 w248 =>
                      inR .i64 (i129 + (1 : Int)) ∧
                      (I126 (s247) ((i129 + (1 : Int))) w248 ∧ mu127 (s247) ((i129 + (1 : Int))) w248 < mu127 out128 i129 w130)) (
                      inR .i64 (i129 + (1 : Int)) ∧
                      (I126 (out204) ((i129 + (1 : Int))) w205 ∧ mu127 (out204) ((i129 + (1 : Int))) w205 < mu127 out128 i129 w130)))))) (
              K (Slc.v out128) w130))) (
          BIf (decide (n124 = (3 : Int))) (
            ∃ t249 : List UInt8, World.cell? w107 (⟨r13, 7, none⟩ : Addr) = some (strV t249) ∧
            Calls Tryd.prog fn_tidewaterref04_Text ⟨[(strV t249)]⟩ w107 fun e250 w251 =>
            ∃ s252 : Slc, e250 = .returned (Slc.v s252) ∧
            appendS 1 5 [(Value.int .u8 (0 : Int))] w251 out105 (.slc s252) fun s253 w254 =>
            K (Slc.v s253) w254) (
            BIf (decide (n124 = (5 : Int))) (
              ∃ s255 : Slc, World.cell? w107 (⟨r13, 11, none⟩ : Addr) = some (Slc.v s255) ∧
              ∃ t256 : List UInt8, bytesAt w107 s255 t256 ∧
              Calls Tryd.prog fn_tidewaterref04_Text ⟨[(strV t256)]⟩ w107 fun e257 w258 =>
              ∃ s259 : Slc, e257 = .returned (Slc.v s259) ∧
              appendS 1 5 [(Value.int .u8 (0 : Int))] w258 out105 (.slc s259) fun s260 w261 =>
              K (Slc.v s260) w261) (
              K (Slc.v out105) w107))))))

theorem tidewaterref05_Bytes_eq (e1 : Int) (e2 : Int) (e3 : Int) (e4 : Int) (e5 : Int) (e6 : Int) (e7 : Slc) (e8 : List UInt8) (e9 : Int) (e10 : Int) (e11 : Int) (e12 : Slc) (w : World) (K : Value → World → Prop) : tidewaterref05_Bytes e1 e2 e3 e4 e5 e6 e7 e8 e9 e10 e11 e12 w K = denF Tryd.prog callB Tryd.f35 (.two .none (.two .none (.cut [(3, Sh.slc)] [14, 15, 16, 17, 18, 19, 20, 21, 22, 23, 24, 25, 26, 27, 28, 29, 30, 31, 32, 33, 34, 35, 36, 37, 38, 39, 40, 41, 42, 43, 44, 45, 46, 47, 48, 49, 50, 51, 52, 53, 54, 55, 56, 57, 58, 59, 60, 61] .none (.two .none (.two (.two .none (.one (.loop [(4, Sh.slc), (65, (Sh.int .i64))] [6, 66, 67, 68, 69, 70, 71, 72, 73] .none))) (.two (.two .none (.one (.two .none (.two (.two .none (.one (.loop [(4, Sh.slc), (81, (Sh.int .i64))] [8, 82, 83, 84, 85, 86, 87, 88, 89, 90, 91, 92, 93, 94, 95, 96, 97, 98, 99, 100, 101, 102, 103, 104, 105, 106, 107, 108, 109, 110, 111, 112, 113, 114, 115, 116, 117, 118, 119, 120, 121, 122, 123, 124] (.two .none (.two .none (.two (.one (.two .none (.two .none (.two .none (.cut [(4, Sh.slc)] [95, 96, 97, 98, 99, 100, 101, 102] .none .none))))) .none)))))) .none)))) .none)))))) [(Value.agg ⟨[(Value.int .i64 e1), (Value.int .i64 e2), (Value.int .i64 e3), (Value.int .i64 e4), (Value.int .i64 e5), (Value.int .i64 e6), (Slc.v e7), (strV e8), (Value.int .i64 e9), (Value.int .i64 e10), (Value.int .i64 e11), (Slc.v e12)]⟩)] w K := by kernel_rfl
theorem tidewaterref05_Bytes_ok (e1 : Int) (e2 : Int) (e3 : Int) (e4 : Int) (e5 : Int) (e6 : Int) (e7 : Slc) (e8 : List UInt8) (e9 : Int) (e10 : Int) (e11 : Int) (e12 : Slc) {w : World} {R : Ending → World → Prop} (h : tidewaterref05_Bytes e1 e2 e3 e4 e5 e6 e7 e8 e9 e10 e11 e12 w fun v w' => R (.returned v) w') : Calls Tryd.prog fn_tidewaterref05_Bytes ⟨[(Value.agg ⟨[(Value.int .i64 e1), (Value.int .i64 e2), (Value.int .i64 e3), (Value.int .i64 e4), (Value.int .i64 e5), (Value.int .i64 e6), (Slc.v e7), (strV e8), (Value.int .i64 e9), (Value.int .i64 e10), (Value.int .i64 e11), (Slc.v e12)]⟩)]⟩ w R :=
  calls_of_den callB_ok mixed Tryd.func35 (tidewaterref05_Bytes_eq e1 e2 e3 e4 e5 e6 e7 e8 e9 e10 e11 e12 w _ ▸ h)

/-- tidewater/tidewaterref05.Same -/
def tidewaterref05_Same (a1 : Int) (a2 : Int) (a3 : Int) (a4 : Int) (a5 : Int) (a6 : Int) (a7 : Slc) (a8 : List UInt8) (a9 : Int) (a10 : Int) (a11 : Int) (a12 : Slc) (b13 : Int) (b14 : Int) (b15 : Int) (b16 : Int) (b17 : Int) (b18 : Int) (b19 : Slc) (b20 : List UInt8) (b21 : Int) (b22 : Int) (b23 : Int) (b24 : Slc) (w : World) (K : Value → World → Prop) : Prop :=
  newS w (.cells ⟨[(Value.int .i64 a1), (Value.int .i64 a2), (Value.int .i64 a3), (Value.int .i64 a4), (Value.int .i64 a5), (Value.int .i64 a6), (Slc.v a7), (strV a8), (Value.int .i64 a9), (Value.int .i64 a10), (Value.int .i64 a11), (Slc.v a12)]⟩ 25) fun r25 w26 =>
  newS w26 (.cells ⟨[(Value.int .i64 b13), (Value.int .i64 b14), (Value.int .i64 b15), (Value.int .i64 b16), (Value.int .i64 b17), (Value.int .i64 b18), (Slc.v b19), (strV b20), (Value.int .i64 b21), (Value.int .i64 b22), (Value.int .i64 b23), (Slc.v b24)]⟩ 25) fun r27 w28 =>
  ∃ n29 : Int, ∃ n30 : Int, ∃ n31 : Int, ∃ n32 : Int, ∃ n33 : Int, ∃ n34 : Int, ∃ s35 : Slc, ∃ t36 : List UInt8, ∃ n37 : Int, ∃ n38 : Int, ∃ n39 : Int, ∃ s40 : Slc, rowAt (World.drew w28) (⟨r25, 0, none⟩ : Addr) 0 [(Value.int .i64 n29), (Value.int .i64 n30), (Value.int .i64 n31), (Value.int .i64 n32), (Value.int .i64 n33), (Value.int .i64 n34), (Slc.v s35), (strV t36), (Value.int .i64 n37), (Value.int .i64 n38), (Value.int .i64 n39), (Slc.v s40)] ∧
  Calls Tryd.prog fn_tidewaterref05_Right ⟨[(Value.agg ⟨[(Value.int .i64 n29), (Value.int .i64 n30), (Value.int .i64 n31), (Value.int .i64 n32), (Value.int .i64 n33), (Value.int .i64 n34), (Slc.v s35), (strV t36), (Value.int .i64 n37), (Value.int .i64 n38), (Value.int .i64 n39), (Slc.v s40)]⟩)]⟩ (World.drew w28) fun e41 w42 =>
  ∃ b43 : Bool, e41 = .returned (Value.bool b43) ∧
  BIf b43 (
    ∃ n44 : Int, ∃ n45 : Int, ∃ n46 : Int, ∃ n47 : Int, ∃ n48 : Int, ∃ n49 : Int, ∃ s50 : Slc, ∃ t51 : List UInt8, ∃ n52 : Int, ∃ n53 : Int, ∃ n54 : Int, ∃ s55 : Slc, rowAt w42 (⟨r27, 0, none⟩ : Addr) 0 [(Value.int .i64 n44), (Value.int .i64 n45), (Value.int .i64 n46), (Value.int .i64 n47), (Value.int .i64 n48), (Value.int .i64 n49), (Slc.v s50), (strV t51), (Value.int .i64 n52), (Value.int .i64 n53), (Value.int .i64 n54), (Slc.v s55)] ∧
    Calls Tryd.prog fn_tidewaterref05_Right ⟨[(Value.agg ⟨[(Value.int .i64 n44), (Value.int .i64 n45), (Value.int .i64 n46), (Value.int .i64 n47), (Value.int .i64 n48), (Value.int .i64 n49), (Slc.v s50), (strV t51), (Value.int .i64 n52), (Value.int .i64 n53), (Value.int .i64 n54), (Slc.v s55)]⟩)]⟩ w42 fun e56 w57 =>
    ∃ b58 : Bool, e56 = .returned (Value.bool b58) ∧
    BIf b58 (
      ∃ n59 : Int, ∃ n60 : Int, ∃ n61 : Int, ∃ n62 : Int, ∃ n63 : Int, ∃ n64 : Int, ∃ s65 : Slc, ∃ t66 : List UInt8, ∃ n67 : Int, ∃ n68 : Int, ∃ n69 : Int, ∃ s70 : Slc, rowAt w57 (⟨r25, 0, none⟩ : Addr) 0 [(Value.int .i64 n59), (Value.int .i64 n60), (Value.int .i64 n61), (Value.int .i64 n62), (Value.int .i64 n63), (Value.int .i64 n64), (Slc.v s65), (strV t66), (Value.int .i64 n67), (Value.int .i64 n68), (Value.int .i64 n69), (Slc.v s70)] ∧
      ∃ n71 : Int, ∃ n72 : Int, ∃ n73 : Int, ∃ n74 : Int, ∃ n75 : Int, ∃ n76 : Int, ∃ s77 : Slc, ∃ t78 : List UInt8, ∃ n79 : Int, ∃ n80 : Int, ∃ n81 : Int, ∃ s82 : Slc, rowAt w57 (⟨r27, 0, none⟩ : Addr) 0 [(Value.int .i64 n71), (Value.int .i64 n72), (Value.int .i64 n73), (Value.int .i64 n74), (Value.int .i64 n75), (Value.int .i64 n76), (Slc.v s77), (strV t78), (Value.int .i64 n79), (Value.int .i64 n80), (Value.int .i64 n81), (Slc.v s82)] ∧
      Calls Tryd.prog fn_tidewaterref05_Bytes ⟨[(Value.agg ⟨[(Value.int .i64 n59), (Value.int .i64 n60), (Value.int .i64 n61), (Value.int .i64 n62), (Value.int .i64 n63), (Value.int .i64 n64), (Slc.v s65), (strV t66), (Value.int .i64 n67), (Value.int .i64 n68), (Value.int .i64 n69), (Slc.v s70)]⟩)]⟩ w57 fun e83 w84 =>
      ∃ s85 : Slc, e83 = .returned (Slc.v s85) ∧
      (∃ n86 : Int, ∃ n87 : Int, ∃ n88 : Int, ∃ n89 : Int, ∃ n90 : Int, ∃ n91 : Int, ∃ s92 : Slc, ∃ t93 : List UInt8, ∃ n94 : Int, ∃ n95 : Int, ∃ n96 : Int, ∃ s97 : Slc, rowAt w84 (⟨r27, 0, none⟩ : Addr) 0 [(Value.int .i64 n86), (Value.int .i64 n87), (Value.int .i64 n88), (Value.int .i64 n89), (Value.int .i64 n90), (Value.int .i64 n91), (Slc.v s92), (strV t93), (Value.int .i64 n94), (Value.int .i64 n95), (Value.int .i64 n96), (Slc.v s97)] ∧
      (Value.agg ⟨[(Value.int .i64 n86), (Value.int .i64 n87), (Value.int .i64 n88), (Value.int .i64 n89), (Value.int .i64 n90), (Value.int .i64 n91), (Slc.v s92), (strV t93), (Value.int .i64 n94), (Value.int .i64 n95), (Value.int .i64 n96), (Slc.v s97)]⟩) = (Value.agg ⟨[(Value.int .i64 n71), (Value.int .i64 n72), (Value.int .i64 n73), (Value.int .i64 n74), (Value.int .i64 n75), (Value.int .i64 n76), (Slc.v s77), (strV t78), (Value.int .i64 n79), (Value.int .i64 n80), (Value.int .i64 n81), (Slc.v s82)]⟩)) ∧
      ∃ t98 : List UInt8, bytesAt w84 s85 t98 ∧
      Calls Tryd.prog fn_tidewaterref05_Bytes ⟨[(Value.agg ⟨[(Value.int .i64 n71), (Value.int .i64 n72), (Value.int .i64 n73), (Value.int .i64 n74), (Value.int .i64 n75), (Value.int .i64 n76), (Slc.v s77), (strV t78), (Value.int .i64 n79), (Value.int .i64 n80), (Value.int .i64 n81), (Slc.v s82)]⟩)]⟩ w84 fun e99 w100 =>
      ∃ s101 : Slc, e99 = .returned (Slc.v s101) ∧
      (∃ t102 : List UInt8, bytesAt w100 s85 t102 ∧
      (strV t102) = (strV t98)) ∧
      ∃ t103 : List UInt8, bytesAt w100 s101 t103 ∧
      K (Value.bool (decide (t98 = t103))) w100) (
      K (Value.bool false) w57)) (
    K (Value.bool false) w42)

theorem tidewaterref05_Same_eq (a1 : Int) (a2 : Int) (a3 : Int) (a4 : Int) (a5 : Int) (a6 : Int) (a7 : Slc) (a8 : List UInt8) (a9 : Int) (a10 : Int) (a11 : Int) (a12 : Slc) (b13 : Int) (b14 : Int) (b15 : Int) (b16 : Int) (b17 : Int) (b18 : Int) (b19 : Slc) (b20 : List UInt8) (b21 : Int) (b22 : Int) (b23 : Int) (b24 : Slc) (w : World) (K : Value → World → Prop) : tidewaterref05_Same a1 a2 a3 a4 a5 a6 a7 a8 a9 a10 a11 a12 b13 b14 b15 b16 b17 b18 b19 b20 b21 b22 b23 b24 w K = denF Tryd.prog callB Tryd.f12 .none [(Value.agg ⟨[(Value.int .i64 a1), (Value.int .i64 a2), (Value.int .i64 a3), (Value.int .i64 a4), (Value.int .i64 a5), (Value.int .i64 a6), (Slc.v a7), (strV a8), (Value.int .i64 a9), (Value.int .i64 a10), (Value.int .i64 a11), (Slc.v a12)]⟩), (Value.agg ⟨[(Value.int .i64 b13), (Value.int .i64 b14), (Value.int .i64 b15), (Value.int .i64 b16), (Value.int .i64 b17), (Value.int .i64 b18), (Slc.v b19), (strV b20), (Value.int .i64 b21), (Value.int .i64 b22), (Value.int .i64 b23), (Slc.v b24)]⟩)] w K := by kernel_rfl
theorem tidewaterref05_Same_ok (a1 : Int) (a2 : Int) (a3 : Int) (a4 : Int) (a5 : Int) (a6 : Int) (a7 : Slc) (a8 : List UInt8) (a9 : Int) (a10 : Int) (a11 : Int) (a12 : Slc) (b13 : Int) (b14 : Int) (b15 : Int) (b16 : Int) (b17 : Int) (b18 : Int) (b19 : Slc) (b20 : List UInt8) (b21 : Int) (b22 : Int) (b23 : Int) (b24 : Slc) {w : World} {R : Ending → World → Prop} (h : tidewaterref05_Same a1 a2 a3 a4 a5 a6 a7 a8 a9 a10 a11 a12 b13 b14 b15 b16 b17 b18 b19 b20 b21 b22 b23 b24 w fun v w' => R (.returned v) w') : Calls Tryd.prog fn_tidewaterref05_Same ⟨[(Value.agg ⟨[(Value.int .i64 a1), (Value.int .i64 a2), (Value.int .i64 a3), (Value.int .i64 a4), (Value.int .i64 a5), (Value.int .i64 a6), (Slc.v a7), (strV a8), (Value.int .i64 a9), (Value.int .i64 a10), (Value.int .i64 a11), (Slc.v a12)]⟩), (Value.agg ⟨[(Value.int .i64 b13), (Value.int .i64 b14), (Value.int .i64 b15), (Value.int .i64 b16), (Value.int .i64 b17), (Value.int .i64 b18), (Slc.v b19), (strV b20), (Value.int .i64 b21), (Value.int .i64 b22), (Value.int .i64 b23), (Slc.v b24)]⟩)]⟩ w R :=
  calls_of_den callB_ok mixed Tryd.func12 (tidewaterref05_Same_eq a1 a2 a3 a4 a5 a6 a7 a8 a9 a10 a11 a12 b13 b14 b15 b16 b17 b18 b19 b20 b21 b22 b23 b24 w _ ▸ h)

/-- tidewater/tidewaterref05.Streams -/
def tidewaterref05_Streams (e1 : Int) (e2 : Int) (e3 : Int) (e4 : Int) (e5 : Int) (e6 : Int) (e7 : Slc) (e8 : List UInt8) (e9 : Int) (e10 : Int) (e11 : Int) (e12 : Slc) (w : World) (K : Value → World → Prop) : Prop :=
  newS w (.cells ⟨[(Value.int .i64 e1), (Value.int .i64 e2), (Value.int .i64 e3), (Value.int .i64 e4), (Value.int .i64 e5), (Value.int .i64 e6), (Slc.v e7), (strV e8), (Value.int .i64 e9), (Value.int .i64 e10), (Value.int .i64 e11), (Slc.v e12)]⟩ 25) fun r13 w14 =>
  newS w14 (.cells ⟨[]⟩ 3) fun r15 w16 =>
  ∃ (I17 : (Slc) → (Int) → World → Prop) (mu18 : (Slc) → (Int) → World → Nat), I17 ((⟨(some (⟨r15, 0, none⟩ : Addr)), 0, 0⟩ : Slc)) ((0 : Int)) w16 ∧ (
  ∀ out19 : Slc, ∀ s20 : Int, ∀ w21 : World, I17 out19 s20 w21 → ∀ u22 u23 u24 u25 u26 u27 u28 u29 u30 u31 u32 u33 u34 u35 u36 u37 u38 u39 u40 u41 u42 u43 u44 u45 u46 u47 u48 u49 u50 u51 u52 u53 u54 u55 u56 u57 u58 u59 u60 u61 u62 u63 : Value,
    BIf (decide (s20 ≤ (12 : Int))) (
      BIf (decide (s20 = (0 : Int))) (
        ∃ n64 : Int, World.cell? w21 (⟨r13, 0, none⟩ : Addr) = some (Value.int .i64 n64) ∧
        BIf (decide ((2 : Int) ≤ n64)) (
          ∃ n65 : Int, World.cell? w21 (⟨r13, 0, none⟩ : Addr) = some (Value.int .i64 n65) ∧
          BIf (decide (n65 ≤ (4 : Int))) (
            newS w21 (.cells ⟨[(Value.int .i64 s20)]⟩ 3) fun r66 w67 =>
            appendS 1 3 [(Value.int .i64 (0 : Int))] w67 out19 (.slc (⟨(some (⟨r66, 0, none⟩ : Addr)), 1, 1⟩ : Slc)) fun s68 w69 =>
            inR .i64 (s20 + (1 : Int)) ∧
            (I17 (s68) ((s20 + (1 : Int))) w69 ∧ mu18 (s68) ((s20 + (1 : Int))) w69 < mu18 out19 s20 w21)) (
            ∃ n70 : Int, World.cell? w21 (⟨r13, 1, none⟩ : Addr) = some (Value.int .i64 n70) ∧
            BIf (decide (s20 = n70)) (
              newS w21 (.cells ⟨[(Value.int .i64 s20)]⟩ 3) fun r71 w72 =>
              appendS 1 3 [(Value.int .i64 (0 : Int))] w72 out19 (.slc (⟨(some (⟨r71, 0, none⟩ : Addr)), 1, 1⟩ : Slc)) fun s73 w74 =>
              inR .i64 (s20 + (1 : Int)) ∧
              (I17 (s73) ((s20 + (1 : Int))) w74 ∧ mu18 (s73) ((s20 + (1 : Int))) w74 < mu18 out19 s20 w21)) (
              ∃ n75 : Int, World.cell? w21 (⟨r13, 0, none⟩ : Addr) = some (Value.int .i64 n75) ∧
              BIf (decide (n75 = (3 : Int))) (
                ∃ n76 : Int, World.cell? w21 (⟨r13, 2, none⟩ : Addr) = some (Value.int .i64 n76) ∧
                BIf (decide (s20 = n76)) (
                  newS w21 (.cells ⟨[(Value.int .i64 s20)]⟩ 3) fun r77 w78 =>
                  appendS 1 3 [(Value.int .i64 (0 : Int))] w78 out19 (.slc (⟨(some (⟨r77, 0, none⟩ : Addr)), 1, 1⟩ : Slc)) fun s79 w80 =>
                  inR .i64 (s20 + (1 : Int)) ∧
                  (I17 (s79) ((s20 + (1 : Int))) w80 ∧ mu18 (s79) ((s20 + (1 : Int))) w80 < mu18 out19 s20 w21)) (
                  inR .i64 (s20 + (1 : Int)) ∧
                  (I17 (out19) ((s20 + (1 : Int))) w21 ∧ mu18 (out19) ((s20 + (1 : Int))) w21 < mu18 out19 s20 w21))) (
                ∃ n81 : Int, World.cell? w21 (⟨r13, 0, none⟩ : Addr) = some (Value.int .i64 n81) ∧
                BIf (decide (n81 = (4 : Int))) (
                  ∃ n82 : Int, World.cell? w21 (⟨r13, 2, none⟩ : Addr) = some (Value.int .i64 n82) ∧
                  BIf (decide (s20 = n82)) (
                    newS w21 (.cells ⟨[(Value.int .i64 s20)]⟩ 3) fun r83 w84 =>
                    appendS 1 3 [(Value.int .i64 (0 : Int))] w84 out19 (.slc (⟨(some (⟨r83, 0, none⟩ : Addr)), 1, 1⟩ : Slc)) fun s85 w86 =>
                    inR .i64 (s20 + (1 : Int)) ∧
                    (I17 (s85) ((s20 + (1 : Int))) w86 ∧ mu18 (s85) ((s20 + (1 : Int))) w86 < mu18 out19 s20 w21)) (
                    inR .i64 (s20 + (1 : Int)) ∧
                    (I17 (out19) ((s20 + (1 : Int))) w21 ∧ mu18 (out19) ((s20 + (1 : Int))) w21 < mu18 out19 s20 w21))) (
                  inR .i64 (s20 + (1 : Int)) ∧
                  (I17 (out19) ((s20 + (1 : Int))) w21 ∧ mu18 (out19) ((s20 + (1 : Int))) w21 < mu18 out19 s20 w21)))))) (
          ∃ n87 : Int, World.cell? w21 (⟨r13, 1, none⟩ : Addr) = some (Value.int .i64 n87) ∧
          BIf (decide (s20 = n87)) (
            newS w21 (.cells ⟨[(Value.int .i64 s20)]⟩ 3) fun r88 w89 =>
            appendS 1 3 [(Value.int .i64 (0 : Int))] w89 out19 (.slc (⟨(some (⟨r88, 0, none⟩ : Addr)), 1, 1⟩ : Slc)) fun s90 w91 =>
            inR .i64 (s20 + (1 : Int)) ∧
            (I17 (s90) ((s20 + (1 : Int))) w91 ∧ mu18 (s90) ((s20 + (1 : Int))) w91 < mu18 out19 s20 w21)) (
            ∃ n92 : Int, World.cell? w21 (⟨r13, 0, none⟩ : Addr) = some (Value.int .i64 n92) ∧
            BIf (decide (n92 = (3 : Int))) (
              ∃ n93 : Int, World.cell? w21 (⟨r13, 2, none⟩ : Addr) = some (Value.int .i64 n93) ∧
              BIf (decide (s20 = n93)) (
                newS w21 (.cells ⟨[(Value.int .i64 s20)]⟩ 3) fun r94 w95 =>
                appendS 1 3 [(Value.int .i64 (0 : Int))] w95 out19 (.slc (⟨(some (⟨r94, 0, none⟩ : Addr)), 1, 1⟩ : Slc)) fun s96 w97 =>
                inR .i64 (s20 + (1 : Int)) ∧
                (I17 (s96) ((s20 + (1 : Int))) w97 ∧ mu18 (s96) ((s20 + (1 : Int))) w97 < mu18 out19 s20 w21)) (
                inR .i64 (s20 + (1 : Int)) ∧
                (I17 (out19) ((s20 + (1 : Int))) w21 ∧ mu18 (out19) ((s20 + (1 : Int))) w21 < mu18 out19 s20 w21))) (
              ∃ n98 : Int, World.cell? w21 (⟨r13, 0, none⟩ : Addr) = some (Value.int .i64 n98) ∧
              BIf (decide (n98 = (4 : Int))) (
                ∃ n99 : Int, World.cell? w21 (⟨r13, 2, none⟩ : Addr) = some (Value.int .i64 n99) ∧
                BIf (decide (s20 = n99)) (
                  newS w21 (.cells ⟨[(Value.int .i64 s20)]⟩ 3) fun r100 w101 =>
                  appendS 1 3 [(Value.int .i64 (0 : Int))] w101 out19 (.slc (⟨(some (⟨r100, 0, none⟩ : Addr)), 1, 1⟩ : Slc)) fun s102 w103 =>
                  inR .i64 (s20 + (1 : Int)) ∧
                  (I17 (s102) ((s20 + (1 : Int))) w103 ∧ mu18 (s102) ((s20 + (1 : Int))) w103 < mu18 out19 s20 w21)) (
                  inR .i64 (s20 + (1 : Int)) ∧
                  (I17 (out19) ((s20 + (1 : Int))) w21 ∧ mu18 (out19) ((s20 + (1 : Int))) w21 < mu18 out19 s20 w21))) (
                inR .i64 (s20 + (1 : Int)) ∧
                (I17 (out19) ((s20 + (1 : Int))) w21 ∧ mu18 (out19) ((s20 + (1 : Int))) w21 < mu18 out19 s20 w21)))))) (
        ∃ n104 : Int, World.cell? w21 (⟨r13, 1, none⟩ : Addr) = some (Value.int .i64 n104) ∧
        BIf (decide (s20 = n104)) (
          newS w21 (.cells ⟨[(Value.int .i64 s20)]⟩ 3) fun r105 w106 =>
          appendS 1 3 [(Value.int .i64 (0 : Int))] w106 out19 (.slc (⟨(some (⟨r105, 0, none⟩ : Addr)), 1, 1⟩ : Slc)) fun s107 w108 =>
          inR .i64 (s20 + (1 : Int)) ∧
          (I17 (s107) ((s20 + (1 : Int))) w108 ∧ mu18 (s107) ((s20 + (1 : Int))) w108 < mu18 out19 s20 w21)) (
          ∃ n109 : Int, World.cell? w21 (⟨r13, 0, none⟩ : Addr) = some (Value.int .i64 n109) ∧
          BIf (decide (n109 = (3 : Int))) (
            ∃ n110 : Int, World.cell? w21 (⟨r13, 2, none⟩ : Addr) = some (Value.int .i64 n110) ∧
            BIf (decide (s20 = n110)) (
              newS w21 (.cells ⟨[(Value.int .i64 s20)]⟩ 3) fun r111 w112 =>
              appendS 1 3 [(Value.int .i64 (0 : Int))] w112 out19 (.slc (⟨(some (⟨r111, 0, none⟩ : Addr)), 1, 1⟩ : Slc)) fun s113 w114 =>
              inR .i64 (s20 + (1 : Int)) ∧
              (I17 (s113) ((s20 + (1 : Int))) w114 ∧ mu18 (s113) ((s20 + (1 : Int))) w114 < mu18 out19 s20 w21)) (
              inR .i64 (s20 + (1 : Int)) ∧
              (I17 (out19) ((s20 + (1 : Int))) w21 ∧ mu18 (out19) ((s20 + (1 : Int))) w21 < mu18 out19 s20 w21))) (
            ∃ n115 : Int, World.cell? w21 (⟨r13, 0, none⟩ : Addr) = some (Value.int .i64 n115) ∧
            BIf (decide (n115 = (4 : Int))) (
              ∃ n116 : Int, World.cell? w21 (⟨r13, 2, none⟩ : Addr) = some (Value.int .i64 n116) ∧
              BIf (decide (s20 = n116)) (
                newS w21 (.cells ⟨[(Value.int .i64 s20)]⟩ 3) fun r117 w118 =>
                appendS 1 3 [(Value.int .i64 (0 : Int))] w118 out19 (.slc (⟨(some (⟨r117, 0, none⟩ : Addr)), 1, 1⟩ : Slc)) fun s119 w120 =>
                inR .i64 (s20 + (1 : Int)) ∧
                (I17 (s119) ((s20 + (1 : Int))) w120 ∧ mu18 (s119) ((s20 + (1 : Int))) w120 < mu18 out19 s20 w21)) (
                inR .i64 (s20 + (1 : Int)) ∧
                (I17 (out19) ((s20 + (1 : Int))) w21 ∧ mu18 (out19) ((s20 + (1 : Int))) w21 < mu18 out19 s20 w21))) (
              inR .i64 (s20 + (1 : Int)) ∧
              (I17 (out19) ((s20 + (1 : Int))) w21 ∧ mu18 (out19) ((s20 + (1 : Int))) w21 < mu18 out19 s20 w21)))))) (
      K (Slc.v out19) w21))

theorem tidewaterref05_Streams_eq (e1 : Int) (e2 : Int) (e3 : Int) (e4 : Int) (e5 : Int) (e6 : Int) (e7 : Slc) (e8 : List UInt8) (e9 : Int) (e10 : Int) (e11 : Int) (e12 : Slc) (w : World) (K : Value → World → Prop) : tidewaterref05_Streams e1 e2 e3 e4 e5 e6 e7 e8 e9 e10 e11 e12 w K = denF Tryd.prog callB Tryd.f36 (.two .none (.two .none (.two (.two .none (.one (.loop [(3, Sh.slc), (4, (Sh.int .i64))] [6, 7, 8, 9, 10, 11, 12, 13, 14, 15, 16, 17, 18, 19, 20, 21, 22, 23, 24, 25, 26, 27, 28, 29, 30, 31, 32, 33, 34, 35, 36, 37, 38, 39, 40, 41, 42, 43, 44, 45, 46, 47] .none))) .none))) [(Value.agg ⟨[(Value.int .i64 e1), (Value.int .i64 e2), (Value.int .i64 e3), (Value.int .i64 e4), (Value.int .i64 e5), (Value.int .i64 e6), (Slc.v e7), (strV e8), (Value.int .i64 e9), (Value.int .i64 e10), (Value.int .i64 e11), (Slc.v e12)]⟩)] w K := by kernel_rfl
theorem tidewaterref05_Streams_ok (e1 : Int) (e2 : Int) (e3 : Int) (e4 : Int) (e5 : Int) (e6 : Int) (e7 : Slc) (e8 : List UInt8) (e9 : Int) (e10 : Int) (e11 : Int) (e12 : Slc) {w : World} {R : Ending → World → Prop} (h : tidewaterref05_Streams e1 e2 e3 e4 e5 e6 e7 e8 e9 e10 e11 e12 w fun v w' => R (.returned v) w') : Calls Tryd.prog fn_tidewaterref05_Streams ⟨[(Value.agg ⟨[(Value.int .i64 e1), (Value.int .i64 e2), (Value.int .i64 e3), (Value.int .i64 e4), (Value.int .i64 e5), (Value.int .i64 e6), (Slc.v e7), (strV e8), (Value.int .i64 e9), (Value.int .i64 e10), (Value.int .i64 e11), (Slc.v e12)]⟩)]⟩ w R :=
  calls_of_den callB_ok mixed Tryd.func36 (tidewaterref05_Streams_eq e1 e2 e3 e4 e5 e6 e7 e8 e9 e10 e11 e12 w _ ▸ h)

end Go.D
