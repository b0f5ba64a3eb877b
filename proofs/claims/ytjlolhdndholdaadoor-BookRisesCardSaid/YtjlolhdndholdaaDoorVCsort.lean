/-
  WHAT IS PROVED: verification conditions of functions of this program, each with its soundness. No further conditions.
-/
import Derived.Test.YtjlolhdndholdaaDoorBase
set_option linter.unusedSimpArgs false
set_option maxRecDepth 100000
set_option linter.unusedVariables false
namespace Go.D
open Go Go.Proofs
/-- slices.Sort[[]int,int] -/
def slices_Sort_int (x1 : Slc) (w : World) (K : Value → World → Prop) : Prop :=
  Calls Tryd.prog fn_math_bits_Len ⟨[(Value.int .u64 (IntKind.wrap .u64 ((x1.l : Nat) : Int)))]⟩ w fun e2 w3 =>
  ∃ n4 : Int, e2 = .returned (Value.int .i64 n4) ∧
  Calls Tryd.prog fn_slices_pdqsortOrdered_int ⟨[(Slc.v x1), (Value.int .i64 (0 : Int)), (Value.int .i64 ((x1.l : Nat) : Int)), (Value.int .i64 n4)]⟩ w3 fun e5 w6 =>
  e5 = .returned (Value.tuple #[]) ∧
  K (Value.tuple #[]) w6

theorem slices_Sort_int_eq (x1 : Slc) (w : World) (K : Value → World → Prop) : slices_Sort_int x1 w K = denF Tryd.prog callB Tryd.f43 .none [(Slc.v x1)] w K := by kernel_rfl
theorem slices_Sort_int_ok (x1 : Slc) {w : World} {R : Ending → World → Prop} (h : slices_Sort_int x1 w fun v w' => R (.returned v) w') : Calls Tryd.prog fn_slices_Sort_int ⟨[(Slc.v x1)]⟩ w R :=
  calls_of_den callB_ok mixed Tryd.func43 (slices_Sort_int_eq x1 w _ ▸ h)

/-- slices.pdqsortOrdered[int] -/
def slices_pdqsortOrdered_int (data1 : Slc) (a2 : Int) (b3 : Int) (limit4 : Int) (w : World) (K : Value → World → Prop) : Prop :=
  ∃ (I5 : (Int) → (Int) → (Int) → (Bool) → (Bool) → World → Prop) (mu6 : (Int) → (Int) → (Int) → (Bool) → (Bool) → World → Nat), I5 (a2) (b3) (limit4) (true) (true) w ∧ (
  ∀ a7 : Int, ∀ b8 : Int, ∀ limit9 : Int, ∀ wasBalanced10 : Bool, ∀ wasPartitioned11 : Bool, ∀ w12 : World, I5 a7 b8 limit9 wasBalanced10 wasPartitioned11 w12 → ∀ u13 u14 u15 u16 u17 u18 u19 u20 u21 u22 u23 u24 u25 u26 u27 u28 u29 u30 u31 u32 u33 u34 u35 u36 u37 u38 u39 u40 u41 u42 u43 u44 u45 u46 u47 u48 u49 u50 u51 u52 u53 u54 u55 u56 u57 u58 u59 u60 u61 u62 u63 u64 u65 u66 u67 u68 u69 u70 u71 u72 u73 u74 u75 u76 u77 u78 u79 u80 u81 u82 u83 u84 u85 u86 u87 u88 u89 u90 u91 u92 u93 u94 u95 u96 u97 u98 u99 u100 u101 u102 u103 u104 u105 u106 u107 u108 u109 u110 u111 u112 u113 u114 u115 u116 u117 u118 u119 u120 u121 u122 u123 u124 u125 u126 u127 u128 u129 u130 u131 u132 u133 u134 u135 u136 : Value,
    inR .i64 (b8 - a7) ∧
    BIf (decide ((b8 - a7) ≤ (12 : Int))) (
      Calls Tryd.prog fn_slices_insertionSortOrdered_int ⟨[(Slc.v data1), (Value.int .i64 a7), (Value.int .i64 b8)]⟩ w12 fun e137 w138 =>
      e137 = .returned (Value.tuple #[]) ∧
      K (Value.tuple #[]) w138) (
      BIf (decide (limit9 = (0 : Int))) (
        Calls Tryd.prog fn_slices_heapSortOrdered_int ⟨[(Slc.v data1), (Value.int .i64 a7), (Value.int .i64 b8)]⟩ w12 fun e139 w140 =>
        e139 = .returned (Value.tuple #[]) ∧
        K (Value.tuple #[]) w140) (
        ∃ J141 : (Int) → World → Prop,
        (
          BIf (!wasBalanced10) (
            Calls Tryd.prog fn_slices_breakPatternsOrdered_int ⟨[(Slc.v data1), (Value.int .i64 a7), (Value.int .i64 b8)]⟩ w12 fun e142 w143 =>
            e142 = .returned (Value.tuple #[]) ∧
            inR .i64 (limit9 - (1 : Int)) ∧
            J141 ((limit9 - (1 : Int))) w143) (
            J141 (limit9) w12)) ∧ (
        ∀ limit144 : Int, ∀ w145 : World, J141 limit144 w145 → ∀ u146 u147 u148 u149 u150 u151 u152 u153 : Value,
          Calls Tryd.prog fn_slices_choosePivotOrdered_int ⟨[(Slc.v data1), (Value.int .i64 a7), (Value.int .i64 b8)]⟩ w145 fun e154 w155 =>
          ∃ n156 : Int, ∃ n157 : Int, e154 = .returned (Value.tuple ⟨[(Value.int .i64 n156), (Value.int .i64 n157)]⟩) ∧
          ∃ J158 : (Int) → (Int) → World → Prop,
          (
            BIf (decide (n157 = (2 : Int))) (
              Calls Tryd.prog fn_slices_reverseRangeOrdered_int ⟨[(Slc.v data1), (Value.int .i64 a7), (Value.int .i64 b8)]⟩ w155 fun e159 w160 =>
              e159 = .returned (Value.tuple #[]) ∧
              inR .i64 (b8 - (1 : Int)) ∧
              inR .i64 (n156 - a7) ∧
              inR .i64 ((b8 - (1 : Int)) - (n156 - a7)) ∧
              J158 (((b8 - (1 : Int)) - (n156 - a7))) ((1 : Int)) w160) (
              J158 (n156) (n157) w155)) ∧ (
          ∀ pivot161 : Int, ∀ hint162 : Int, ∀ w163 : World, J158 pivot161 hint162 w163 → ∀ u164 u165 u166 u167 u168 u169 u170 u171 u172 u173 u174 u175 : Value,
            ∃ J176 : World → Prop,
            (
              BIf wasBalanced10 (
                BIf wasPartitioned11 (
                  BIf (decide (hint162 = (1 : Int))) (
                    Calls Tryd.prog fn_slices_partialInsertionSortOrdered_int ⟨[(Slc.v data1), (Value.int .i64 a7), (Value.int .i64 b8)]⟩ w163 fun e177 w178 =>
                    ∃ b179 : Bool, e177 = .returned (Value.bool b179) ∧
                    BIf b179 (
                      K (Value.tuple #[]) w178) (
                      J176 w178)) (
                    J176 w163)) (
                  J176 w163)) (
                J176 w163)) ∧ (
            ∀ w180 : World, J176 w180 → ∀ u181 u182 u183 u184 u185 u186 u187 u188 u189 u190 u191 u192 : Value,
              ∃ J193 : (Int) → World → Prop,
              (
                BIf (decide ((0 : Int) < a7)) (
                  inR .i64 (a7 - (1 : Int)) ∧
                  needSome data1.p fun a194 =>
                  0 ≤ (a7 - (1 : Int)) ∧ (a7 - (1 : Int)) < ((data1.l : Nat) : Int) ∧
                  ∃ n195 : Int, World.cell? (World.drew w180) (Addr.add a194 ((Int.toNat (a7 - (1 : Int))) * 1)) = some (Value.int .i64 n195) ∧
                  needSome data1.p fun a196 =>
                  0 ≤ pivot161 ∧ pivot161 < ((data1.l : Nat) : Int) ∧
                  ∃ n197 : Int, World.cell? (World.drew w180) (Addr.add a196 ((Int.toNat pivot161) * 1)) = some (Value.int .i64 n197) ∧
                  Calls Tryd.prog fn_cmp_Less_int ⟨[(Value.int .i64 n195), (Value.int .i64 n197)]⟩ (World.drew w180) fun e198 w199 =>
                  ∃ b200 : Bool, e198 = .returned (Value.bool b200) ∧
                  BIf (!b200) (
                    Calls Tryd.prog fn_slices_partitionEqualOrdered_int ⟨[(Slc.v data1), (Value.int .i64 a7), (Value.int .i64 b8), (Value.int .i64 pivot161)]⟩ w199 fun e201 w202 =>
                    ∃ n203 : Int, e201 = .returned (Value.int .i64 n203) ∧
                    (I5 (n203) (b8) (limit144) (wasBalanced10) (wasPartitioned11) w202 ∧ mu6 (n203) (b8) (limit144) (wasBalanced10) (wasPartitioned11) w202 < mu6 a7 b8 limit9 wasBalanced10 wasPartitioned11 w12)) (
                    J193 (a7) w199)) (
                  J193 (a7) (World.drew w180))) ∧ (
              ∀ a204 : Int, ∀ w205 : World, J193 a204 w205 → ∀ u206 u207 u208 u209 u210 u211 u212 u213 u214 u215 u216 u217 u218 u219 u220 u221 u222 u223 u224 u225 u226 u227 : Value,
                Calls Tryd.prog fn_slices_partitionOrdered_int ⟨[(Slc.v data1), (Value.int .i64 a204), (Value.int .i64 b8), (Value.int .i64 pivot161)]⟩ w205 fun e228 w229 =>
                ∃ n230 : Int, ∃ b231 : Bool, e228 = .returned (Value.tuple ⟨[(Value.int .i64 n230), (Value.bool b231)]⟩) ∧
                inR .i64 (n230 - a204) ∧
                inR .i64 (b8 - n230) ∧
                0 ≤ (b8 - a7) ∧ 0 < (8 : Int) ∧ inR .i64 (b8 - a7) ∧
                BIf (decide ((n230 - a204) < (b8 - n230))) (
                  Calls Tryd.prog fn_slices_pdqsortOrdered_int ⟨[(Slc.v data1), (Value.int .i64 a204), (Value.int .i64 n230), (Value.int .i64 limit144)]⟩ w229 fun e232 w233 =>
                  e232 = .returned (Value.tuple #[]) ∧
                  inR .i64 (n230 + (1 : Int)) ∧
                  (I5 ((n230 + (1 : Int))) (b8) (limit144) ((decide (((b8 - a7) / (8 : Int)) ≤ (n230 - a204)))) (b231) w233 ∧ mu6 ((n230 + (1 : Int))) (b8) (limit144) ((decide (((b8 - a7) / (8 : Int)) ≤ (n230 - a204)))) (b231) w233 < mu6 a7 b8 limit9 wasBalanced10 wasPartitioned11 w12)) (
                  inR .i64 (n230 + (1 : Int)) ∧
                  Calls Tryd.prog fn_slices_pdqsortOrdered_int ⟨[(Slc.v data1), (Value.int .i64 (n230 + (1 : Int))), (Value.int .i64 b8), (Value.int .i64 limit144)]⟩ w229 fun e234 w235 =>
                  e234 = .returned (Value.tuple #[]) ∧
                  (I5 (a204) (n230) (limit144) ((decide (((b8 - a7) / (8 : Int)) ≤ (b8 - n230)))) (b231) w235 ∧ mu6 (a204) (n230) (limit144) ((decide (((b8 - a7) / (8 : Int)) ≤ (b8 - n230)))) (b231) w235 < mu6 a7 b8 limit9 wasBalanced10 wasPartitioned11 w12)))))))))

theorem slices_pdqsortOrdered_int_eq (data1 : Slc) (a2 : Int) (b3 : Int) (limit4 : Int) (w : World) (K : Value → World → Prop) : slices_pdqsortOrdered_int data1 a2 b3 limit4 w K = denF Tryd.prog callB Tryd.f59 (.two .none (.two .none (.one (.loop [(1, (Sh.int .i64)), (2, (Sh.int .i64)), (3, (Sh.int .i64)), (8, Sh.bool), (9, Sh.bool)] [10, 11, 12, 13, 14, 15, 16, 17, 18, 19, 20, 21, 22, 23, 24, 25, 26, 27, 28, 29, 30, 31, 32, 33, 34, 35, 36, 37, 38, 39, 40, 41, 42, 43, 44, 45, 46, 47, 48, 49, 50, 51, 52, 53, 54, 55, 56, 57, 58, 59, 60, 61, 62, 63, 64, 65, 66, 67, 68, 69, 70, 71, 72, 73, 74, 75, 76, 77, 78, 79, 80, 81, 82, 83, 84, 85, 86, 87, 88, 89, 90, 91, 92, 93, 94, 95, 96, 97, 98, 99, 100, 101, 102, 103, 104, 105, 106, 107, 108, 109, 110, 111, 112, 113, 114, 115, 116, 117, 118, 119, 120, 121, 122, 123, 124, 125, 126, 127, 128, 129, 130, 131, 132, 133] (.one (.two .none (.two .none (.two .none (.cut [(3, (Sh.int .i64))] [34, 35, 36, 37, 38, 39, 40, 41] .none (.two .none (.cut [(11, (Sh.int .i64)), (12, (Sh.int .i64))] [49, 50, 51, 52, 53, 54, 55, 56, 57, 58, 59, 60] .none (.cut [] [61, 62, 63, 64, 65, 66, 67, 68, 69, 70, 71, 72] .none (.cut [(1, (Sh.int .i64))] [13, 73, 74, 75, 76, 77, 78, 79, 80, 81, 82, 83, 84, 85, 86, 87, 88, 89, 90, 91, 92, 93] .none .none))))))))))))) [(Slc.v data1), (Value.int .i64 a2), (Value.int .i64 b3), (Value.int .i64 limit4)] w K := by kernel_rfl
theorem slices_pdqsortOrdered_int_ok (data1 : Slc) (a2 : Int) (b3 : Int) (limit4 : Int) {w : World} {R : Ending → World → Prop} (h : slices_pdqsortOrdered_int data1 a2 b3 limit4 w fun v w' => R (.returned v) w') : Calls Tryd.prog fn_slices_pdqsortOrdered_int ⟨[(Slc.v data1), (Value.int .i64 a2), (Value.int .i64 b3), (Value.int .i64 limit4)]⟩ w R :=
  calls_of_den callB_ok mixed Tryd.func59 (slices_pdqsortOrdered_int_eq data1 a2 b3 limit4 w _ ▸ h)

/-- slices.insertionSortOrdered[int] -/
def slices_insertionSortOrdered_int (data1 : Slc) (a2 : Int) (b3 : Int) (w : World) (K : Value → World → Prop) : Prop :=
  inR .i64 (a2 + (1 : Int)) ∧
  ∃ (I4 : (Int) → World → Prop) (mu5 : (Int) → World → Nat), I4 ((a2 + (1 : Int))) w ∧ (
  ∀ i6 : Int, ∀ w7 : World, I4 i6 w7 → ∀ u8 u9 u10 u11 u12 u13 u14 u15 u16 u17 u18 u19 u20 u21 u22 u23 u24 u25 u26 u27 u28 u29 u30 u31 u32 u33 u34 u35 u36 u37 u38 u39 u40 u41 u42 u43 u44 u45 u46 u47 : Value,
    BIf (decide (i6 < b3)) (
      ∃ (I48 : (Int) → World → Prop) (mu49 : (Int) → World → Nat), I48 (i6) w7 ∧ (
      ∀ j50 : Int, ∀ w51 : World, I48 j50 w51 → ∀ u52 u53 u54 u55 u56 u57 u58 u59 u60 u61 u62 u63 u64 u65 u66 u67 u68 u69 u70 u71 u72 u73 u74 u75 u76 u77 u78 u79 u80 u81 u82 u83 u84 : Value,
        ∃ J85 : World → Prop,
        (
          BIf (decide (a2 < j50)) (
            needSome data1.p fun a86 =>
            0 ≤ j50 ∧ j50 < ((data1.l : Nat) : Int) ∧
            ∃ n87 : Int, World.cell? (World.drew w51) (Addr.add a86 ((Int.toNat j50) * 1)) = some (Value.int .i64 n87) ∧
            inR .i64 (j50 - (1 : Int)) ∧
            needSome data1.p fun a88 =>
            0 ≤ (j50 - (1 : Int)) ∧ (j50 - (1 : Int)) < ((data1.l : Nat) : Int) ∧
            ∃ n89 : Int, World.cell? (World.drew w51) (Addr.add a88 ((Int.toNat (j50 - (1 : Int))) * 1)) = some (Value.int .i64 n89) ∧
            Calls Tryd.prog fn_cmp_Less_int ⟨[(Value.int .i64 n87), (Value.int .i64 n89)]⟩ (World.drew w51) fun e90 w91 =>
            ∃ b92 : Bool, e90 = .returned (Value.bool b92) ∧
            BIf b92 (
              J85 w91) (
              inR .i64 (i6 + (1 : Int)) ∧
              (I4 ((i6 + (1 : Int))) w91 ∧ mu5 ((i6 + (1 : Int))) w91 < mu5 i6 w7))) (
            inR .i64 (i6 + (1 : Int)) ∧
            (I4 ((i6 + (1 : Int))) (World.drew w51) ∧ mu5 ((i6 + (1 : Int))) (World.drew w51) < mu5 i6 w7))) ∧ (
        ∀ w93 : World, J85 w93 → ∀ u94 u95 u96 u97 u98 u99 u100 u101 u102 u103 u104 u105 u106 u107 u108 : Value,
          inR .i64 (j50 - (1 : Int)) ∧
          inR .i64 (j50 - (1 : Int)) ∧
          needSome data1.p fun a109 =>
          0 ≤ (j50 - (1 : Int)) ∧ (j50 - (1 : Int)) < ((data1.l : Nat) : Int) ∧
          ∃ n110 : Int, World.cell? (World.drew w93) (Addr.add a109 ((Int.toNat (j50 - (1 : Int))) * 1)) = some (Value.int .i64 n110) ∧
          needSome data1.p fun a111 =>
          0 ≤ j50 ∧ j50 < ((data1.l : Nat) : Int) ∧
          ∃ n112 : Int, World.cell? (World.drew w93) (Addr.add a111 ((Int.toNat j50) * 1)) = some (Value.int .i64 n112) ∧
          needSome data1.p fun a113 =>
          0 ≤ j50 ∧ j50 < ((data1.l : Nat) : Int) ∧
          canW (World.drew w93) (Addr.add a113 ((Int.toNat j50) * 1)) 1 ∧ ∀ w114 : World, w114 = World.setCell (World.drew w93) (Addr.add a113 ((Int.toNat j50) * 1)) (Value.int .i64 n110) →
          needSome data1.p fun a115 =>
          0 ≤ (j50 - (1 : Int)) ∧ (j50 - (1 : Int)) < ((data1.l : Nat) : Int) ∧
          canW w114 (Addr.add a115 ((Int.toNat (j50 - (1 : Int))) * 1)) 1 ∧ ∀ w116 : World, w116 = World.setCell w114 (Addr.add a115 ((Int.toNat (j50 - (1 : Int))) * 1)) (Value.int .i64 n112) →
          inR .i64 (j50 - (1 : Int)) ∧
          (I48 ((j50 - (1 : Int))) w116 ∧ mu49 ((j50 - (1 : Int))) w116 < mu49 j50 w51)))) (
      K (Value.tuple #[]) w7))

theorem slices_insertionSortOrdered_int_eq (data1 : Slc) (a2 : Int) (b3 : Int) (w : World) (K : Value → World → Prop) : slices_insertionSortOrdered_int data1 a2 b3 w K = denF Tryd.prog callB Tryd.f67 (.two .none (.one (.loop [(6, (Sh.int .i64))] [7, 10, 11, 12, 13, 14, 15, 16, 17, 18, 19, 20, 21, 22, 23, 24, 25, 26, 27, 28, 29, 30, 31, 32, 33, 34, 35, 36, 37, 38, 39, 40, 41, 42, 43, 44, 45, 46, 47, 48] (.two .none (.two (.one (.two .none (.one (.loop [(7, (Sh.int .i64))] [16, 17, 18, 19, 20, 21, 22, 23, 24, 25, 26, 27, 28, 29, 30, 31, 32, 33, 34, 35, 36, 37, 38, 39, 40, 41, 42, 43, 44, 45, 46, 47, 48] (.cut [] [16, 17, 18, 19, 20, 21, 22, 23, 24, 25, 26, 27, 28, 29, 30] .none .none))))) .none))))) [(Slc.v data1), (Value.int .i64 a2), (Value.int .i64 b3)] w K := by kernel_rfl
theorem slices_insertionSortOrdered_int_ok (data1 : Slc) (a2 : Int) (b3 : Int) {w : World} {R : Ending → World → Prop} (h : slices_insertionSortOrdered_int data1 a2 b3 w fun v w' => R (.returned v) w') : Calls Tryd.prog fn_slices_insertionSortOrdered_int ⟨[(Slc.v data1), (Value.int .i64 a2), (Value.int .i64 b3)]⟩ w R :=
  calls_of_den callB_ok mixed Tryd.func67 (slices_insertionSortOrdered_int_eq data1 a2 b3 w _ ▸ h)

/-- cmp.Less[int] -/
def cmp_Less_int (x1 : Int) (y2 : Int) (w : World) (K : Value → World → Prop) : Prop :=
  Calls Tryd.prog fn_cmp_isNaN_int ⟨[(Value.int .i64 x1)]⟩ w fun e3 w4 =>
  ∃ b5 : Bool, e3 = .returned (Value.bool b5) ∧
  BIf b5 (
    Calls Tryd.prog fn_cmp_isNaN_int ⟨[(Value.int .i64 y2)]⟩ w4 fun e6 w7 =>
    ∃ b8 : Bool, e6 = .returned (Value.bool b8) ∧
    BIf (!b8) (
      K (Value.bool true) w7) (
      K (Value.bool (decide (x1 < y2))) w7)) (
    K (Value.bool (decide (x1 < y2))) w4)

theorem cmp_Less_int_eq (x1 : Int) (y2 : Int) (w : World) (K : Value → World → Prop) : cmp_Less_int x1 y2 w K = denF Tryd.prog callB Tryd.f73 .none [(Value.int .i64 x1), (Value.int .i64 y2)] w K := by kernel_rfl
theorem cmp_Less_int_ok (x1 : Int) (y2 : Int) {w : World} {R : Ending → World → Prop} (h : cmp_Less_int x1 y2 w fun v w' => R (.returned v) w') : Calls Tryd.prog fn_cmp_Less_int ⟨[(Value.int .i64 x1), (Value.int .i64 y2)]⟩ w R :=
  calls_of_den callB_ok mixed Tryd.func73 (cmp_Less_int_eq x1 y2 w _ ▸ h)

/-- cmp.isNaN[int] -/
def cmp_isNaN_int (x1 : Int) (w : World) (K : Value → World → Prop) : Prop :=
  K (Value.bool (!decide (x1 = x1))) w

theorem cmp_isNaN_int_eq (x1 : Int) (w : World) (K : Value → World → Prop) : cmp_isNaN_int x1 w K = denF Tryd.prog callB Tryd.f83 .none [(Value.int .i64 x1)] w K := by kernel_rfl
theorem cmp_isNaN_int_ok (x1 : Int) {w : World} {R : Ending → World → Prop} (h : cmp_isNaN_int x1 w fun v w' => R (.returned v) w') : Calls Tryd.prog fn_cmp_isNaN_int ⟨[(Value.int .i64 x1)]⟩ w R :=
  calls_of_den callB_ok mixed Tryd.func83 (cmp_isNaN_int_eq x1 w _ ▸ h)

/-- math/bits.Len -/
def math_bits_Len (x1 : Int) (w : World) (K : Value → World → Prop) : Prop :=
  Calls Tryd.prog fn_math_bits_Len64 ⟨[(Value.int .u64 x1)]⟩ w fun e2 w3 =>
  ∃ n4 : Int, e2 = .returned (Value.int .i64 n4) ∧
  K (Value.int .i64 n4) w3

theorem math_bits_Len_eq (x1 : Int) (w : World) (K : Value → World → Prop) : math_bits_Len x1 w K = denF Tryd.prog callB Tryd.f60 .none [(Value.int .u64 x1)] w K := by kernel_rfl
theorem math_bits_Len_ok (x1 : Int) {w : World} {R : Ending → World → Prop} (h : math_bits_Len x1 w fun v w' => R (.returned v) w') : Calls Tryd.prog fn_math_bits_Len ⟨[(Value.int .u64 x1)]⟩ w R :=
  calls_of_den callB_ok mixed Tryd.func60 (math_bits_Len_eq x1 w _ ▸ h)

/-- math/bits.Len32 -/
def math_bits_Len32 (x1 : Int) (w : World) (K : Value → World → Prop) : Prop :=
  ∃ J2 : (Int) → (Int) → World → Prop,
  (
    BIf (decide ((65536 : Int) ≤ x1)) (
      0 ≤ (16 : Int) ∧ 0 ≤ x1 ∧
      J2 ((x1 / 65536)) ((16 : Int)) w) (
      J2 (x1) ((0 : Int)) w)) ∧ (
  ∀ x3 : Int, ∀ n4 : Int, ∀ w5 : World, J2 x3 n4 w5 → ∀ u6 u7 u8 u9 : Value,
    BIf (decide ((256 : Int) ≤ x3)) (
      0 ≤ (8 : Int) ∧ 0 ≤ x3 ∧
      inR .i64 (n4 + (8 : Int)) ∧
      0 ≤ (IntKind.wrap .u8 (x3 / 256)) ∧ (IntKind.wrap .u8 (x3 / 256)) < ((List.length ([0, 1, 2, 2, 3, 3, 3, 3, 4, 4, 4, 4, 4, 4, 4, 4, 5, 5, 5, 5, 5, 5, 5, 5, 5, 5, 5, 5, 5, 5, 5, 5, 6, 6, 6, 6, 6, 6, 6, 6, 6, 6, 6, 6, 6, 6, 6, 6, 6, 6, 6, 6, 6, 6, 6, 6, 6, 6, 6, 6, 6, 6, 6, 6, 7, 7, 7, 7, 7, 7, 7, 7, 7, 7, 7, 7, 7, 7, 7, 7, 7, 7, 7, 7, 7, 7, 7, 7, 7, 7, 7, 7, 7, 7, 7, 7, 7, 7, 7, 7, 7, 7, 7, 7, 7, 7, 7, 7, 7, 7, 7, 7, 7, 7, 7, 7, 7, 7, 7, 7, 7, 7, 7, 7, 7, 7, 7, 7, 8, 8, 8, 8, 8, 8, 8, 8, 8, 8, 8, 8, 8, 8, 8, 8, 8, 8, 8, 8, 8, 8, 8, 8, 8, 8, 8, 8, 8, 8, 8, 8, 8, 8, 8, 8, 8, 8, 8, 8, 8, 8, 8, 8, 8, 8, 8, 8, 8, 8, 8, 8, 8, 8, 8, 8, 8, 8, 8, 8, 8, 8, 8, 8, 8, 8, 8, 8, 8, 8, 8, 8, 8, 8, 8, 8, 8, 8, 8, 8, 8, 8, 8, 8, 8, 8, 8, 8, 8, 8, 8, 8, 8, 8, 8, 8, 8, 8, 8, 8, 8, 8, 8, 8, 8, 8, 8, 8, 8, 8, 8, 8, 8, 8, 8, 8, 8, 8, 8, 8, 8, 8, 8, 8, 8, 8, 8, 8] : List UInt8) : Nat) : Int) ∧
      inR .i64 ((UInt8.toNat (List.getD ([0, 1, 2, 2, 3, 3, 3, 3, 4, 4, 4, 4, 4, 4, 4, 4, 5, 5, 5, 5, 5, 5, 5, 5, 5, 5, 5, 5, 5, 5, 5, 5, 6, 6, 6, 6, 6, 6, 6, 6, 6, 6, 6, 6, 6, 6, 6, 6, 6, 6, 6, 6, 6, 6, 6, 6, 6, 6, 6, 6, 6, 6, 6, 6, 7, 7, 7, 7, 7, 7, 7, 7, 7, 7, 7, 7, 7, 7, 7, 7, 7, 7, 7, 7, 7, 7, 7, 7, 7, 7, 7, 7, 7, 7, 7, 7, 7, 7, 7, 7, 7, 7, 7, 7, 7, 7, 7, 7, 7, 7, 7, 7, 7, 7, 7, 7, 7, 7, 7, 7, 7, 7, 7, 7, 7, 7, 7, 7, 8, 8, 8, 8, 8, 8, 8, 8, 8, 8, 8, 8, 8, 8, 8, 8, 8, 8, 8, 8, 8, 8, 8, 8, 8, 8, 8, 8, 8, 8, 8, 8, 8, 8, 8, 8, 8, 8, 8, 8, 8, 8, 8, 8, 8, 8, 8, 8, 8, 8, 8, 8, 8, 8, 8, 8, 8, 8, 8, 8, 8, 8, 8, 8, 8, 8, 8, 8, 8, 8, 8, 8, 8, 8, 8, 8, 8, 8, 8, 8, 8, 8, 8, 8, 8, 8, 8, 8, 8, 8, 8, 8, 8, 8, 8, 8, 8, 8, 8, 8, 8, 8, 8, 8, 8, 8, 8, 8, 8, 8, 8, 8, 8, 8, 8, 8, 8, 8, 8, 8, 8, 8, 8, 8, 8, 8, 8, 8] : List UInt8) (Int.toNat (IntKind.wrap .u8 (x3 / 256))) 0) : Nat) : Int) ∧
      inR .i64 ((n4 + (8 : Int)) + ((UInt8.toNat (List.getD ([0, 1, 2, 2, 3, 3, 3, 3, 4, 4, 4, 4, 4, 4, 4, 4, 5, 5, 5, 5, 5, 5, 5, 5, 5, 5, 5, 5, 5, 5, 5, 5, 6, 6, 6, 6, 6, 6, 6, 6, 6, 6, 6, 6, 6, 6, 6, 6, 6, 6, 6, 6, 6, 6, 6, 6, 6, 6, 6, 6, 6, 6, 6, 6, 7, 7, 7, 7, 7, 7, 7, 7, 7, 7, 7, 7, 7, 7, 7, 7, 7, 7, 7, 7, 7, 7, 7, 7, 7, 7, 7, 7, 7, 7, 7, 7, 7, 7, 7, 7, 7, 7, 7, 7, 7, 7, 7, 7, 7, 7, 7, 7, 7, 7, 7, 7, 7, 7, 7, 7, 7, 7, 7, 7, 7, 7, 7, 7, 8, 8, 8, 8, 8, 8, 8, 8, 8, 8, 8, 8, 8, 8, 8, 8, 8, 8, 8, 8, 8, 8, 8, 8, 8, 8, 8, 8, 8, 8, 8, 8, 8, 8, 8, 8, 8, 8, 8, 8, 8, 8, 8, 8, 8, 8, 8, 8, 8, 8, 8, 8, 8, 8, 8, 8, 8, 8, 8, 8, 8, 8, 8, 8, 8, 8, 8, 8, 8, 8, 8, 8, 8, 8, 8, 8, 8, 8, 8, 8, 8, 8, 8, 8, 8, 8, 8, 8, 8, 8, 8, 8, 8, 8, 8, 8, 8, 8, 8, 8, 8, 8, 8, 8, 8, 8, 8, 8, 8, 8, 8, 8, 8, 8, 8, 8, 8, 8, 8, 8, 8, 8, 8, 8, 8, 8, 8, 8] : List UInt8) (Int.toNat (IntKind.wrap .u8 (x3 / 256))) 0) : Nat) : Int)) ∧
      K (Value.int .i64 ((n4 + (8 : Int)) + ((UInt8.toNat (List.getD ([0, 1, 2, 2, 3, 3, 3, 3, 4, 4, 4, 4, 4, 4, 4, 4, 5, 5, 5, 5, 5, 5, 5, 5, 5, 5, 5, 5, 5, 5, 5, 5, 6, 6, 6, 6, 6, 6, 6, 6, 6, 6, 6, 6, 6, 6, 6, 6, 6, 6, 6, 6, 6, 6, 6, 6, 6, 6, 6, 6, 6, 6, 6, 6, 7, 7, 7, 7, 7, 7, 7, 7, 7, 7, 7, 7, 7, 7, 7, 7, 7, 7, 7, 7, 7, 7, 7, 7, 7, 7, 7, 7, 7, 7, 7, 7, 7, 7, 7, 7, 7, 7, 7, 7, 7, 7, 7, 7, 7, 7, 7, 7, 7, 7, 7, 7, 7, 7, 7, 7, 7, 7, 7, 7, 7, 7, 7, 7, 8, 8, 8, 8, 8, 8, 8, 8, 8, 8, 8, 8, 8, 8, 8, 8, 8, 8, 8, 8, 8, 8, 8, 8, 8, 8, 8, 8, 8, 8, 8, 8, 8, 8, 8, 8, 8, 8, 8, 8, 8, 8, 8, 8, 8, 8, 8, 8, 8, 8, 8, 8, 8, 8, 8, 8, 8, 8, 8, 8, 8, 8, 8, 8, 8, 8, 8, 8, 8, 8, 8, 8, 8, 8, 8, 8, 8, 8, 8, 8, 8, 8, 8, 8, 8, 8, 8, 8, 8, 8, 8, 8, 8, 8, 8, 8, 8, 8, 8, 8, 8, 8, 8, 8, 8, 8, 8, 8, 8, 8, 8, 8, 8, 8, 8, 8, 8, 8, 8, 8, 8, 8, 8, 8, 8, 8, 8, 8] : List UInt8) (Int.toNat (IntKind.wrap .u8 (x3 / 256))) 0) : Nat) : Int))) w5) (
      0 ≤ (IntKind.wrap .u8 x3) ∧ (IntKind.wrap .u8 x3) < ((List.length ([0, 1, 2, 2, 3, 3, 3, 3, 4, 4, 4, 4, 4, 4, 4, 4, 5, 5, 5, 5, 5, 5, 5, 5, 5, 5, 5, 5, 5, 5, 5, 5, 6, 6, 6, 6, 6, 6, 6, 6, 6, 6, 6, 6, 6, 6, 6, 6, 6, 6, 6, 6, 6, 6, 6, 6, 6, 6, 6, 6, 6, 6, 6, 6, 7, 7, 7, 7, 7, 7, 7, 7, 7, 7, 7, 7, 7, 7, 7, 7, 7, 7, 7, 7, 7, 7, 7, 7, 7, 7, 7, 7, 7, 7, 7, 7, 7, 7, 7, 7, 7, 7, 7, 7, 7, 7, 7, 7, 7, 7, 7, 7, 7, 7, 7, 7, 7, 7, 7, 7, 7, 7, 7, 7, 7, 7, 7, 7, 8, 8, 8, 8, 8, 8, 8, 8, 8, 8, 8, 8, 8, 8, 8, 8, 8, 8, 8, 8, 8, 8, 8, 8, 8, 8, 8, 8, 8, 8, 8, 8, 8, 8, 8, 8, 8, 8, 8, 8, 8, 8, 8, 8, 8, 8, 8, 8, 8, 8, 8, 8, 8, 8, 8, 8, 8, 8, 8, 8, 8, 8, 8, 8, 8, 8, 8, 8, 8, 8, 8, 8, 8, 8, 8, 8, 8, 8, 8, 8, 8, 8, 8, 8, 8, 8, 8, 8, 8, 8, 8, 8, 8, 8, 8, 8, 8, 8, 8, 8, 8, 8, 8, 8, 8, 8, 8, 8, 8, 8, 8, 8, 8, 8, 8, 8, 8, 8, 8, 8, 8, 8, 8, 8, 8, 8, 8, 8] : List UInt8) : Nat) : Int) ∧
      inR .i64 ((UInt8.toNat (List.getD ([0, 1, 2, 2, 3, 3, 3, 3, 4, 4, 4, 4, 4, 4, 4, 4, 5, 5, 5, 5, 5, 5, 5, 5, 5, 5, 5, 5, 5, 5, 5, 5, 6, 6, 6, 6, 6, 6, 6, 6, 6, 6, 6, 6, 6, 6, 6, 6, 6, 6, 6, 6, 6, 6, 6, 6, 6, 6, 6, 6, 6, 6, 6, 6, 7, 7, 7, 7, 7, 7, 7, 7, 7, 7, 7, 7, 7, 7, 7, 7, 7, 7, 7, 7, 7, 7, 7, 7, 7, 7, 7, 7, 7, 7, 7, 7, 7, 7, 7, 7, 7, 7, 7, 7, 7, 7, 7, 7, 7, 7, 7, 7, 7, 7, 7, 7, 7, 7, 7, 7, 7, 7, 7, 7, 7, 7, 7, 7, 8, 8, 8, 8, 8, 8, 8, 8, 8, 8, 8, 8, 8, 8, 8, 8, 8, 8, 8, 8, 8, 8, 8, 8, 8, 8, 8, 8, 8, 8, 8, 8, 8, 8, 8, 8, 8, 8, 8, 8, 8, 8, 8, 8, 8, 8, 8, 8, 8, 8, 8, 8, 8, 8, 8, 8, 8, 8, 8, 8, 8, 8, 8, 8, 8, 8, 8, 8, 8, 8, 8, 8, 8, 8, 8, 8, 8, 8, 8, 8, 8, 8, 8, 8, 8, 8, 8, 8, 8, 8, 8, 8, 8, 8, 8, 8, 8, 8, 8, 8, 8, 8, 8, 8, 8, 8, 8, 8, 8, 8, 8, 8, 8, 8, 8, 8, 8, 8, 8, 8, 8, 8, 8, 8, 8, 8, 8, 8] : List UInt8) (Int.toNat (IntKind.wrap .u8 x3)) 0) : Nat) : Int) ∧
      inR .i64 (n4 + ((UInt8.toNat (List.getD ([0, 1, 2, 2, 3, 3, 3, 3, 4, 4, 4, 4, 4, 4, 4, 4, 5, 5, 5, 5, 5, 5, 5, 5, 5, 5, 5, 5, 5, 5, 5, 5, 6, 6, 6, 6, 6, 6, 6, 6, 6, 6, 6, 6, 6, 6, 6, 6, 6, 6, 6, 6, 6, 6, 6, 6, 6, 6, 6, 6, 6, 6, 6, 6, 7, 7, 7, 7, 7, 7, 7, 7, 7, 7, 7, 7, 7, 7, 7, 7, 7, 7, 7, 7, 7, 7, 7, 7, 7, 7, 7, 7, 7, 7, 7, 7, 7, 7, 7, 7, 7, 7, 7, 7, 7, 7, 7, 7, 7, 7, 7, 7, 7, 7, 7, 7, 7, 7, 7, 7, 7, 7, 7, 7, 7, 7, 7, 7, 8, 8, 8, 8, 8, 8, 8, 8, 8, 8, 8, 8, 8, 8, 8, 8, 8, 8, 8, 8, 8, 8, 8, 8, 8, 8, 8, 8, 8, 8, 8, 8, 8, 8, 8, 8, 8, 8, 8, 8, 8, 8, 8, 8, 8, 8, 8, 8, 8, 8, 8, 8, 8, 8, 8, 8, 8, 8, 8, 8, 8, 8, 8, 8, 8, 8, 8, 8, 8, 8, 8, 8, 8, 8, 8, 8, 8, 8, 8, 8, 8, 8, 8, 8, 8, 8, 8, 8, 8, 8, 8, 8, 8, 8, 8, 8, 8, 8, 8, 8, 8, 8, 8, 8, 8, 8, 8, 8, 8, 8, 8, 8, 8, 8, 8, 8, 8, 8, 8, 8, 8, 8, 8, 8, 8, 8, 8, 8] : List UInt8) (Int.toNat (IntKind.wrap .u8 x3)) 0) : Nat) : Int)) ∧
      K (Value.int .i64 (n4 + ((UInt8.toNat (List.getD ([0, 1, 2, 2, 3, 3, 3, 3, 4, 4, 4, 4, 4, 4, 4, 4, 5, 5, 5, 5, 5, 5, 5, 5, 5, 5, 5, 5, 5, 5, 5, 5, 6, 6, 6, 6, 6, 6, 6, 6, 6, 6, 6, 6, 6, 6, 6, 6, 6, 6, 6, 6, 6, 6, 6, 6, 6, 6, 6, 6, 6, 6, 6, 6, 7, 7, 7, 7, 7, 7, 7, 7, 7, 7, 7, 7, 7, 7, 7, 7, 7, 7, 7, 7, 7, 7, 7, 7, 7, 7, 7, 7, 7, 7, 7, 7, 7, 7, 7, 7, 7, 7, 7, 7, 7, 7, 7, 7, 7, 7, 7, 7, 7, 7, 7, 7, 7, 7, 7, 7, 7, 7, 7, 7, 7, 7, 7, 7, 8, 8, 8, 8, 8, 8, 8, 8, 8, 8, 8, 8, 8, 8, 8, 8, 8, 8, 8, 8, 8, 8, 8, 8, 8, 8, 8, 8, 8, 8, 8, 8, 8, 8, 8, 8, 8, 8, 8, 8, 8, 8, 8, 8, 8, 8, 8, 8, 8, 8, 8, 8, 8, 8, 8, 8, 8, 8, 8, 8, 8, 8, 8, 8, 8, 8, 8, 8, 8, 8, 8, 8, 8, 8, 8, 8, 8, 8, 8, 8, 8, 8, 8, 8, 8, 8, 8, 8, 8, 8, 8, 8, 8, 8, 8, 8, 8, 8, 8, 8, 8, 8, 8, 8, 8, 8, 8, 8, 8, 8, 8, 8, 8, 8, 8, 8, 8, 8, 8, 8, 8, 8, 8, 8, 8, 8, 8, 8] : List UInt8) (Int.toNat (IntKind.wrap .u8 x3)) 0) : Nat) : Int))) w5))

theorem math_bits_Len32_eq (x1 : Int) (w : World) (K : Value → World → Prop) : math_bits_Len32 x1 w K = denF Tryd.prog callB Tryd.f76 (.two .none (.cut [(0, (Sh.int .u32)), (2, (Sh.int .i64))] [3, 4, 5, 6] .none .none)) [(Value.int .u32 x1)] w K := by kernel_rfl
theorem math_bits_Len32_ok (x1 : Int) {w : World} {R : Ending → World → Prop} (h : math_bits_Len32 x1 w fun v w' => R (.returned v) w') : Calls Tryd.prog fn_math_bits_Len32 ⟨[(Value.int .u32 x1)]⟩ w R :=
  calls_of_den callB_ok mixed Tryd.func76 (math_bits_Len32_eq x1 w _ ▸ h)

/-- math/bits.Len64 -/
def math_bits_Len64 (x1 : Int) (w : World) (K : Value → World → Prop) : Prop :=
  ∃ J2 : (Int) → (Int) → World → Prop,
  (
    BIf (decide ((4294967296 : Int) ≤ x1)) (
      0 ≤ (32 : Int) ∧ 0 ≤ x1 ∧
      J2 ((x1 / 4294967296)) ((32 : Int)) w) (
      J2 (x1) ((0 : Int)) w)) ∧ (
  ∀ x3 : Int, ∀ n4 : Int, ∀ w5 : World, J2 x3 n4 w5 → ∀ u6 u7 u8 u9 : Value,
    ∃ J10 : (Int) → (Int) → World → Prop,
    (
      BIf (decide ((65536 : Int) ≤ x3)) (
        0 ≤ (16 : Int) ∧ 0 ≤ x3 ∧
        inR .i64 (n4 + (16 : Int)) ∧
        J10 ((x3 / 65536)) ((n4 + (16 : Int))) w5) (
        J10 (x3) (n4) w5)) ∧ (
    ∀ x11 : Int, ∀ n12 : Int, ∀ w13 : World, J10 x11 n12 w13 → ∀ u14 u15 u16 u17 u18 u19 : Value,
      BIf (decide ((256 : Int) ≤ x11)) (
        0 ≤ (8 : Int) ∧ 0 ≤ x11 ∧
        inR .i64 (n12 + (8 : Int)) ∧
        0 ≤ (IntKind.wrap .u8 (x11 / 256)) ∧ (IntKind.wrap .u8 (x11 / 256)) < ((List.length ([0, 1, 2, 2, 3, 3, 3, 3, 4, 4, 4, 4, 4, 4, 4, 4, 5, 5, 5, 5, 5, 5, 5, 5, 5, 5, 5, 5, 5, 5, 5, 5, 6, 6, 6, 6, 6, 6, 6, 6, 6, 6, 6, 6, 6, 6, 6, 6, 6, 6, 6, 6, 6, 6, 6, 6, 6, 6, 6, 6, 6, 6, 6, 6, 7, 7, 7, 7, 7, 7, 7, 7, 7, 7, 7, 7, 7, 7, 7, 7, 7, 7, 7, 7, 7, 7, 7, 7, 7, 7, 7, 7, 7, 7, 7, 7, 7, 7, 7, 7, 7, 7, 7, 7, 7, 7, 7, 7, 7, 7, 7, 7, 7, 7, 7, 7, 7, 7, 7, 7, 7, 7, 7, 7, 7, 7, 7, 7, 8, 8, 8, 8, 8, 8, 8, 8, 8, 8, 8, 8, 8, 8, 8, 8, 8, 8, 8, 8, 8, 8, 8, 8, 8, 8, 8, 8, 8, 8, 8, 8, 8, 8, 8, 8, 8, 8, 8, 8, 8, 8, 8, 8, 8, 8, 8, 8, 8, 8, 8, 8, 8, 8, 8, 8, 8, 8, 8, 8, 8, 8, 8, 8, 8, 8, 8, 8, 8, 8, 8, 8, 8, 8, 8, 8, 8, 8, 8, 8, 8, 8, 8, 8, 8, 8, 8, 8, 8, 8, 8, 8, 8, 8, 8, 8, 8, 8, 8, 8, 8, 8, 8, 8, 8, 8, 8, 8, 8, 8, 8, 8, 8, 8, 8, 8, 8, 8, 8, 8, 8, 8, 8, 8, 8, 8, 8, 8] : List UInt8) : Nat) : Int) ∧
        inR .i64 ((UInt8.toNat (List.getD ([0, 1, 2, 2, 3, 3, 3, 3, 4, 4, 4, 4, 4, 4, 4, 4, 5, 5, 5, 5, 5, 5, 5, 5, 5, 5, 5, 5, 5, 5, 5, 5, 6, 6, 6, 6, 6, 6, 6, 6, 6, 6, 6, 6, 6, 6, 6, 6, 6, 6, 6, 6, 6, 6, 6, 6, 6, 6, 6, 6, 6, 6, 6, 6, 7, 7, 7, 7, 7, 7, 7, 7, 7, 7, 7, 7, 7, 7, 7, 7, 7, 7, 7, 7, 7, 7, 7, 7, 7, 7, 7, 7, 7, 7, 7, 7, 7, 7, 7, 7, 7, 7, 7, 7, 7, 7, 7, 7, 7, 7, 7, 7, 7, 7, 7, 7, 7, 7, 7, 7, 7, 7, 7, 7, 7, 7, 7, 7, 8, 8, 8, 8, 8, 8, 8, 8, 8, 8, 8, 8, 8, 8, 8, 8, 8, 8, 8, 8, 8, 8, 8, 8, 8, 8, 8, 8, 8, 8, 8, 8, 8, 8, 8, 8, 8, 8, 8, 8, 8, 8, 8, 8, 8, 8, 8, 8, 8, 8, 8, 8, 8, 8, 8, 8, 8, 8, 8, 8, 8, 8, 8, 8, 8, 8, 8, 8, 8, 8, 8, 8, 8, 8, 8, 8, 8, 8, 8, 8, 8, 8, 8, 8, 8, 8, 8, 8, 8, 8, 8, 8, 8, 8, 8, 8, 8, 8, 8, 8, 8, 8, 8, 8, 8, 8, 8, 8, 8, 8, 8, 8, 8, 8, 8, 8, 8, 8, 8, 8, 8, 8, 8, 8, 8, 8, 8, 8] : List UInt8) (Int.toNat (IntKind.wrap .u8 (x11 / 256))) 0) : Nat) : Int) ∧
        inR .i64 ((n12 + (8 : Int)) + ((UInt8.toNat (List.getD ([0, 1, 2, 2, 3, 3, 3, 3, 4, 4, 4, 4, 4, 4, 4, 4, 5, 5, 5, 5, 5, 5, 5, 5, 5, 5, 5, 5, 5, 5, 5, 5, 6, 6, 6, 6, 6, 6, 6, 6, 6, 6, 6, 6, 6, 6, 6, 6, 6, 6, 6, 6, 6, 6, 6, 6, 6, 6, 6, 6, 6, 6, 6, 6, 7, 7, 7, 7, 7, 7, 7, 7, 7, 7, 7, 7, 7, 7, 7, 7, 7, 7, 7, 7, 7, 7, 7, 7, 7, 7, 7, 7, 7, 7, 7, 7, 7, 7, 7, 7, 7, 7, 7, 7, 7, 7, 7, 7, 7, 7, 7, 7, 7, 7, 7, 7, 7, 7, 7, 7, 7, 7, 7, 7, 7, 7, 7, 7, 8, 8, 8, 8, 8, 8, 8, 8, 8, 8, 8, 8, 8, 8, 8, 8, 8, 8, 8, 8, 8, 8, 8, 8, 8, 8, 8, 8, 8, 8, 8, 8, 8, 8, 8, 8, 8, 8, 8, 8, 8, 8, 8, 8, 8, 8, 8, 8, 8, 8, 8, 8, 8, 8, 8, 8, 8, 8, 8, 8, 8, 8, 8, 8, 8, 8, 8, 8, 8, 8, 8, 8, 8, 8, 8, 8, 8, 8, 8, 8, 8, 8, 8, 8, 8, 8, 8, 8, 8, 8, 8, 8, 8, 8, 8, 8, 8, 8, 8, 8, 8, 8, 8, 8, 8, 8, 8, 8, 8, 8, 8, 8, 8, 8, 8, 8, 8, 8, 8, 8, 8, 8, 8, 8, 8, 8, 8, 8] : List UInt8) (Int.toNat (IntKind.wrap .u8 (x11 / 256))) 0) : Nat) : Int)) ∧
        K (Value.int .i64 ((n12 + (8 : Int)) + ((UInt8.toNat (List.getD ([0, 1, 2, 2, 3, 3, 3, 3, 4, 4, 4, 4, 4, 4, 4, 4, 5, 5, 5, 5, 5, 5, 5, 5, 5, 5, 5, 5, 5, 5, 5, 5, 6, 6, 6, 6, 6, 6, 6, 6, 6, 6, 6, 6, 6, 6, 6, 6, 6, 6, 6, 6, 6, 6, 6, 6, 6, 6, 6, 6, 6, 6, 6, 6, 7, 7, 7, 7, 7, 7, 7, 7, 7, 7, 7, 7, 7, 7, 7, 7, 7, 7, 7, 7, 7, 7, 7, 7, 7, 7, 7, 7, 7, 7, 7, 7, 7, 7, 7, 7, 7, 7, 7, 7, 7, 7, 7, 7, 7, 7, 7, 7, 7, 7, 7, 7, 7, 7, 7, 7, 7, 7, 7, 7, 7, 7, 7, 7, 8, 8, 8, 8, 8, 8, 8, 8, 8, 8, 8, 8, 8, 8, 8, 8, 8, 8, 8, 8, 8, 8, 8, 8, 8, 8, 8, 8, 8, 8, 8, 8, 8, 8, 8, 8, 8, 8, 8, 8, 8, 8, 8, 8, 8, 8, 8, 8, 8, 8, 8, 8, 8, 8, 8, 8, 8, 8, 8, 8, 8, 8, 8, 8, 8, 8, 8, 8, 8, 8, 8, 8, 8, 8, 8, 8, 8, 8, 8, 8, 8, 8, 8, 8, 8, 8, 8, 8, 8, 8, 8, 8, 8, 8, 8, 8, 8, 8, 8, 8, 8, 8, 8, 8, 8, 8, 8, 8, 8, 8, 8, 8, 8, 8, 8, 8, 8, 8, 8, 8, 8, 8, 8, 8, 8, 8, 8, 8] : List UInt8) (Int.toNat (IntKind.wrap .u8 (x11 / 256))) 0) : Nat) : Int))) w13) (
        0 ≤ (IntKind.wrap .u8 x11) ∧ (IntKind.wrap .u8 x11) < ((List.length ([0, 1, 2, 2, 3, 3, 3, 3, 4, 4, 4, 4, 4, 4, 4, 4, 5, 5, 5, 5, 5, 5, 5, 5, 5, 5, 5, 5, 5, 5, 5, 5, 6, 6, 6, 6, 6, 6, 6, 6, 6, 6, 6, 6, 6, 6, 6, 6, 6, 6, 6, 6, 6, 6, 6, 6, 6, 6, 6, 6, 6, 6, 6, 6, 7, 7, 7, 7, 7, 7, 7, 7, 7, 7, 7, 7, 7, 7, 7, 7, 7, 7, 7, 7, 7, 7, 7, 7, 7, 7, 7, 7, 7, 7, 7, 7, 7, 7, 7, 7, 7, 7, 7, 7, 7, 7, 7, 7, 7, 7, 7, 7, 7, 7, 7, 7, 7, 7, 7, 7, 7, 7, 7, 7, 7, 7, 7, 7, 8, 8, 8, 8, 8, 8, 8, 8, 8, 8, 8, 8, 8, 8, 8, 8, 8, 8, 8, 8, 8, 8, 8, 8, 8, 8, 8, 8, 8, 8, 8, 8, 8, 8, 8, 8, 8, 8, 8, 8, 8, 8, 8, 8, 8, 8, 8, 8, 8, 8, 8, 8, 8, 8, 8, 8, 8, 8, 8, 8, 8, 8, 8, 8, 8, 8, 8, 8, 8, 8, 8, 8, 8, 8, 8, 8, 8, 8, 8, 8, 8, 8, 8, 8, 8, 8, 8, 8, 8, 8, 8, 8, 8, 8, 8, 8, 8, 8, 8, 8, 8, 8, 8, 8, 8, 8, 8, 8, 8, 8, 8, 8, 8, 8, 8, 8, 8, 8, 8, 8, 8, 8, 8, 8, 8, 8, 8, 8] : List UInt8) : Nat) : Int) ∧
        inR .i64 ((UInt8.toNat (List.getD ([0, 1, 2, 2, 3, 3, 3, 3, 4, 4, 4, 4, 4, 4, 4, 4, 5, 5, 5, 5, 5, 5, 5, 5, 5, 5, 5, 5, 5, 5, 5, 5, 6, 6, 6, 6, 6, 6, 6, 6, 6, 6, 6, 6, 6, 6, 6, 6, 6, 6, 6, 6, 6, 6, 6, 6, 6, 6, 6, 6, 6, 6, 6, 6, 7, 7, 7, 7, 7, 7, 7, 7, 7, 7, 7, 7, 7, 7, 7, 7, 7, 7, 7, 7, 7, 7, 7, 7, 7, 7, 7, 7, 7, 7, 7, 7, 7, 7, 7, 7, 7, 7, 7, 7, 7, 7, 7, 7, 7, 7, 7, 7, 7, 7, 7, 7, 7, 7, 7, 7, 7, 7, 7, 7, 7, 7, 7, 7, 8, 8, 8, 8, 8, 8, 8, 8, 8, 8, 8, 8, 8, 8, 8, 8, 8, 8, 8, 8, 8, 8, 8, 8, 8, 8, 8, 8, 8, 8, 8, 8, 8, 8, 8, 8, 8, 8, 8, 8, 8, 8, 8, 8, 8, 8, 8, 8, 8, 8, 8, 8, 8, 8, 8, 8, 8, 8, 8, 8, 8, 8, 8, 8, 8, 8, 8, 8, 8, 8, 8, 8, 8, 8, 8, 8, 8, 8, 8, 8, 8, 8, 8, 8, 8, 8, 8, 8, 8, 8, 8, 8, 8, 8, 8, 8, 8, 8, 8, 8, 8, 8, 8, 8, 8, 8, 8, 8, 8, 8, 8, 8, 8, 8, 8, 8, 8, 8, 8, 8, 8, 8, 8, 8, 8, 8, 8, 8] : List UInt8) (Int.toNat (IntKind.wrap .u8 x11)) 0) : Nat) : Int) ∧
        inR .i64 (n12 + ((UInt8.toNat (List.getD ([0, 1, 2, 2, 3, 3, 3, 3, 4, 4, 4, 4, 4, 4, 4, 4, 5, 5, 5, 5, 5, 5, 5, 5, 5, 5, 5, 5, 5, 5, 5, 5, 6, 6, 6, 6, 6, 6, 6, 6, 6, 6, 6, 6, 6, 6, 6, 6, 6, 6, 6, 6, 6, 6, 6, 6, 6, 6, 6, 6, 6, 6, 6, 6, 7, 7, 7, 7, 7, 7, 7, 7, 7, 7, 7, 7, 7, 7, 7, 7, 7, 7, 7, 7, 7, 7, 7, 7, 7, 7, 7, 7, 7, 7, 7, 7, 7, 7, 7, 7, 7, 7, 7, 7, 7, 7, 7, 7, 7, 7, 7, 7, 7, 7, 7, 7, 7, 7, 7, 7, 7, 7, 7, 7, 7, 7, 7, 7, 8, 8, 8, 8, 8, 8, 8, 8, 8, 8, 8, 8, 8, 8, 8, 8, 8, 8, 8, 8, 8, 8, 8, 8, 8, 8, 8, 8, 8, 8, 8, 8, 8, 8, 8, 8, 8, 8, 8, 8, 8, 8, 8, 8, 8, 8, 8, 8, 8, 8, 8, 8, 8, 8, 8, 8, 8, 8, 8, 8, 8, 8, 8, 8, 8, 8, 8, 8, 8, 8, 8, 8, 8, 8, 8, 8, 8, 8, 8, 8, 8, 8, 8, 8, 8, 8, 8, 8, 8, 8, 8, 8, 8, 8, 8, 8, 8, 8, 8, 8, 8, 8, 8, 8, 8, 8, 8, 8, 8, 8, 8, 8, 8, 8, 8, 8, 8, 8, 8, 8, 8, 8, 8, 8, 8, 8, 8, 8] : List UInt8) (Int.toNat (IntKind.wrap .u8 x11)) 0) : Nat) : Int)) ∧
        K (Value.int .i64 (n12 + ((UInt8.toNat (List.getD ([0, 1, 2, 2, 3, 3, 3, 3, 4, 4, 4, 4, 4, 4, 4, 4, 5, 5, 5, 5, 5, 5, 5, 5, 5, 5, 5, 5, 5, 5, 5, 5, 6, 6, 6, 6, 6, 6, 6, 6, 6, 6, 6, 6, 6, 6, 6, 6, 6, 6, 6, 6, 6, 6, 6, 6, 6, 6, 6, 6, 6, 6, 6, 6, 7, 7, 7, 7, 7, 7, 7, 7, 7, 7, 7, 7, 7, 7, 7, 7, 7, 7, 7, 7, 7, 7, 7, 7, 7, 7, 7, 7, 7, 7, 7, 7, 7, 7, 7, 7, 7, 7, 7, 7, 7, 7, 7, 7, 7, 7, 7, 7, 7, 7, 7, 7, 7, 7, 7, 7, 7, 7, 7, 7, 7, 7, 7, 7, 8, 8, 8, 8, 8, 8, 8, 8, 8, 8, 8, 8, 8, 8, 8, 8, 8, 8, 8, 8, 8, 8, 8, 8, 8, 8, 8, 8, 8, 8, 8, 8, 8, 8, 8, 8, 8, 8, 8, 8, 8, 8, 8, 8, 8, 8, 8, 8, 8, 8, 8, 8, 8, 8, 8, 8, 8, 8, 8, 8, 8, 8, 8, 8, 8, 8, 8, 8, 8, 8, 8, 8, 8, 8, 8, 8, 8, 8, 8, 8, 8, 8, 8, 8, 8, 8, 8, 8, 8, 8, 8, 8, 8, 8, 8, 8, 8, 8, 8, 8, 8, 8, 8, 8, 8, 8, 8, 8, 8, 8, 8, 8, 8, 8, 8, 8, 8, 8, 8, 8, 8, 8, 8, 8, 8, 8, 8, 8] : List UInt8) (Int.toNat (IntKind.wrap .u8 x11)) 0) : Nat) : Int))) w13)))

theorem math_bits_Len64_eq (x1 : Int) (w : World) (K : Value → World → Prop) : math_bits_Len64 x1 w K = denF Tryd.prog callB Tryd.f77 (.two .none (.cut [(0, (Sh.int .u64)), (2, (Sh.int .i64))] [3, 4, 5, 6] .none (.cut [(0, (Sh.int .u64)), (2, (Sh.int .i64))] [7, 8, 9, 10, 11, 12] .none .none))) [(Value.int .u64 x1)] w K := by kernel_rfl
theorem math_bits_Len64_ok (x1 : Int) {w : World} {R : Ending → World → Prop} (h : math_bits_Len64 x1 w fun v w' => R (.returned v) w') : Calls Tryd.prog fn_math_bits_Len64 ⟨[(Value.int .u64 x1)]⟩ w R :=
  calls_of_den callB_ok mixed Tryd.func77 (math_bits_Len64_eq x1 w _ ▸ h)

end Go.D
