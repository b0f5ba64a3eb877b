/-
  WHAT IS PROVED: verification conditions of functions of this program, each with its soundness. No further conditions.
-/
import Derived.Test.YtppbbkmjjpggkaaGreatDoorBase
set_option linter.unusedSimpArgs false
set_option maxRecDepth 100000
set_option linter.unusedVariables false
namespace Go.D
open Go Go.Proofs
def iO (i1 : Option Addr) (most2 : Int) (w : World) (K : Value -> World -> Prop) : Prop :=
  needSome i1 fun a3 =>
  ∃ n4, w.cell? (a3.add 1) = some (.int .i64 n4) /\
  BIf (!decide (n4 = (0 : Int))) (
  K (.int .i64 (0 : Int)) w) (
  ∃ J5 : (Int) -> World -> Prop,
  (
  ∃ (I6 : (Int) -> World -> Prop) (mu7 : (Int) -> World -> Nat), I6 ((0 : Int)) w /\ (
  ∀ k8 : Int, ∀ w9 : World, I6 k8 w9 -> ∀ _ _ _ _ _ _ _ _ _ _ _ _ _ _ _ _ _ _ _ _ _ _ _ : Value,
  needSome i1 fun a33 =>
  ∃ s34, w9.cell? a33 = some (Slc.v s34) /\
  BIf (decide (k8 < (s34.l : Int))) (
  BIf (decide (k8 < (8 : Int))) (
  needSome i1 fun a35 =>
  ∃ s36, w9.cell? a35 = some (Slc.v s36) /\
  needSome s36.p fun a37 =>
  0 <= k8 /\ k8 < (s36.l : Int) /\
  ∃ n38, w9.cell? (Addr.add a37 ((Int.toNat k8) * 1)) = some (.int .u8 n38) /\
  BIf (decide ((128 : Int) <= n38)) (
  inR .i64 (k8 + (1 : Int)) /\
  (I6 ((k8 + (1 : Int))) w9 /\ mu7 ((k8 + (1 : Int))) w9 < mu7 k8 w9)) (
  J5 (k8) w9)) (
  J5 (k8) w9)) (
  J5 (k8) w9))) /\ (
  ∀ k39 : Int, ∀ w40 : World, J5 k39 w40 -> ∀ _ _ _ _ _ _ _ _ _ _ _ _ _ _ _ _ _ _ _ _ _ _ _ : Value,
  needSome i1 fun a64 =>
  ∃ s65, w40.cell? a64 = some (Slc.v s65) /\
  BIf (decide (k39 = (s65.l : Int))) (
  needSome i1 fun a66 =>
  az w40 (a66.add 1) 1 /\ ∀ w67, w67 = w40.setCell (a66.add 1) (.int .i64 (2 : Int)) ->
  K (.int .i64 (0 : Int)) w67) (
  ∃ J68 : World -> Prop,
  (
  needSome i1 fun a69 =>
  ∃ s70, w40.cell? a69 = some (Slc.v s70) /\
  needSome s70.p fun a71 =>
  0 <= k39 /\ k39 < (s70.l : Int) /\
  ∃ n72, w40.cell? (Addr.add a71 ((Int.toNat k39) * 1)) = some (.int .u8 n72) /\
  BIf (decide ((128 : Int) <= n72)) (
  needSome i1 fun a73 =>
  az w40 (a73.add 1) 1 /\ ∀ w74, w74 = w40.setCell (a73.add 1) (.int .i64 (4 : Int)) ->
  K (.int .i64 (0 : Int)) w74) (
  needSome i1 fun a75 =>
  ∃ s76, w40.cell? a75 = some (Slc.v s76) /\
  needSome s76.p fun a77 =>
  0 <= k39 /\ k39 < (s76.l : Int) /\
  ∃ n78, w40.cell? (Addr.add a77 ((Int.toNat k39) * 1)) = some (.int .u8 n78) /\
  BIf (decide (n78 = (0 : Int))) (
  BIf (decide ((0 : Int) < k39)) (
  needSome i1 fun a79 =>
  az w40 (a79.add 1) 1 /\ ∀ w80, w80 = w40.setCell (a79.add 1) (.int .i64 (4 : Int)) ->
  K (.int .i64 (0 : Int)) w80) (
  BIf (decide (k39 = (8 : Int))) (
  needSome i1 fun a81 =>
  ∃ s82, w40.cell? a81 = some (Slc.v s82) /\
  needSome s82.p fun a83 =>
  0 <= k39 /\ k39 < (s82.l : Int) /\
  ∃ n84, w40.cell? (Addr.add a83 ((Int.toNat k39) * 1)) = some (.int .u8 n84) /\
  BIf (decide ((64 : Int) <= n84)) (
  needSome i1 fun a85 =>
  az w40 (a85.add 1) 1 /\ ∀ w86, w86 = w40.setCell (a85.add 1) (.int .i64 (4 : Int)) ->
  K (.int .i64 (0 : Int)) w86) (
  J68 w40)) (
  J68 w40))) (
  BIf (decide (k39 = (8 : Int))) (
  needSome i1 fun a87 =>
  ∃ s88, w40.cell? a87 = some (Slc.v s88) /\
  needSome s88.p fun a89 =>
  0 <= k39 /\ k39 < (s88.l : Int) /\
  ∃ n90, w40.cell? (Addr.add a89 ((Int.toNat k39) * 1)) = some (.int .u8 n90) /\
  BIf (decide ((64 : Int) <= n90)) (
  needSome i1 fun a91 =>
  az w40 (a91.add 1) 1 /\ ∀ w92, w92 = w40.setCell (a91.add 1) (.int .i64 (4 : Int)) ->
  K (.int .i64 (0 : Int)) w92) (
  J68 w40)) (
  J68 w40)))) /\ (
  ∀ w93 : World, J68 w93 -> ∀ _ _ _ _ _ _ _ _ _ _ _ _ _ _ _ _ _ _ _ _ _ _ _ _ _ _ _ _ _ _ _ _ _ _ _ _ _ _ _ _ : Value,
  ∃ (I134 : (Int) -> (Int) -> World -> Prop) (mu135 : (Int) -> (Int) -> World -> Nat), I134 ((0 : Int)) (k39) w93 /\ (
  ∀ n136 : Int, ∀ j137 : Int, ∀ w138 : World, I134 n136 j137 w138 -> ∀ _ _ _ _ _ _ _ _ _ _ _ _ _ _ _ _ : Value,
  BIf (decide ((0 : Int) <= j137)) (
  inR .i64 (n136 * (128 : Int)) /\
  needSome i1 fun a155 =>
  ∃ s156, w138.cell? a155 = some (Slc.v s156) /\
  needSome s156.p fun a157 =>
  0 <= j137 /\ j137 < (s156.l : Int) /\
  ∃ n158, w138.cell? (Addr.add a157 ((Int.toNat j137) * 1)) = some (.int .u8 n158) /\
  inR .i64 n158 /\
  0 <= n158 /\ 0 < (128 : Int) /\
  inR .i64 ((n136 * (128 : Int)) + (n158 % (128 : Int))) /\
  inR .i64 (j137 - (1 : Int)) /\
  (I134 (((n136 * (128 : Int)) + (n158 % (128 : Int)))) ((j137 - (1 : Int))) w138 /\ mu135 (((n136 * (128 : Int)) + (n158 % (128 : Int)))) ((j137 - (1 : Int))) w138 < mu135 n136 j137 w138)) (
  BIf (decide (most2 < n136)) (
  needSome i1 fun a159 =>
  ∃ s160, w138.cell? a159 = some (Slc.v s160) /\
  inR .i64 (k39 + (1 : Int)) /\
  0 <= (k39 + (1 : Int)) /\ (k39 + (1 : Int)) <= (s160.l : Int) /\ (s160.l : Int) <= (s160.c : Int) /\ (s160.c : Int) <= (s160.c : Int) /\
  needSome i1 fun a162 =>
  az w138 a162 1 /\ ∀ w163, w163 = w138.setCell a162 (Slc.v (Slc.sub s160 1 (Int.toNat (k39 + (1 : Int))) s160.l s160.c)) ->
  needSome i1 fun a164 =>
  az w163 (a164.add 1) 1 /\ ∀ w165, w165 = w163.setCell (a164.add 1) (.int .i64 (1 : Int)) ->
  K (.int .i64 (0 : Int)) w165) (
  needSome i1 fun a166 =>
  ∃ s167, w138.cell? a166 = some (Slc.v s167) /\
  inR .i64 (k39 + (1 : Int)) /\
  0 <= (k39 + (1 : Int)) /\ (k39 + (1 : Int)) <= (s167.l : Int) /\ (s167.l : Int) <= (s167.c : Int) /\ (s167.c : Int) <= (s167.c : Int) /\
  needSome i1 fun a169 =>
  az w138 a169 1 /\ ∀ w170, w170 = w138.setCell a169 (Slc.v (Slc.sub s167 1 (Int.toNat (k39 + (1 : Int))) s167.l s167.c)) ->
  K (.int .i64 n136) w170)))))))
theorem lE (i1 : Option Addr) (most2 : Int) {w : World} {R : Ending -> World -> Prop} (h : iO i1 most2 w fun v w' => R (.returned v) w') : Calls Tryz.prog aG ⟨[(.pointer i1), (.int .i64 most2)]⟩ w R :=
  ab (ann := (.two .none (.two .none (.two .none (.cut [(5, (Sh.int .i64))] (List.range' 13 23) (.one (.loop [(5, (Sh.int .i64))] (List.range' 13 23) .none)) (.two .none (.cut [] ([4] ++ List.range' 46 39) .none (.two .none (.two (.two .none (.one (.loop [(6, (Sh.int .i64)), (7, (Sh.int .i64))] (List.range' 86 16) .none))) .none))))))))) ah mixed Tryz.func54 (Eq.mp (by kernel_rfl) h)
def iC (i1 : Option Addr) (most2 : Int) (w : World) (K : Value -> World -> Prop) : Prop :=
  Calls Tryz.prog aG ⟨[(.pointer i1), (.int .i64 most2)]⟩ w fun e3 w4 =>
  ∃ n5, e3 = .returned (.int .i64 n5) /\
  needSome i1 fun a6 =>
  ∃ n7, w4.cell? (a6.add 1) = some (.int .i64 n7) /\
  BIf (!decide (n7 = (0 : Int))) (
  K (fG ([] : List UInt8)) w4) (
  needSome i1 fun a8 =>
  ∃ s9, w4.cell? a8 = some (Slc.v s9) /\
  BIf (decide ((s9.l : Int) < n5)) (
  needSome i1 fun a10 =>
  az w4 (a10.add 1) 1 /\ ∀ w11, w11 = w4.setCell (a10.add 1) (.int .i64 (2 : Int)) ->
  K (fG ([] : List UInt8)) w11) (
  needSome i1 fun a12 =>
  ∃ s13, w4.cell? a12 = some (Slc.v s13) /\
  0 <= (0 : Int) /\ (0 : Int) <= n5 /\ n5 <= (s13.c : Int) /\ (s13.c : Int) <= (s13.c : Int) /\
  ∃ t15 : List UInt8, ag w4 (Slc.sub s13 1 0 (Int.toNat n5) s13.c) t15 /\
  needSome i1 fun a16 =>
  ∃ s17, w4.cell? a16 = some (Slc.v s17) /\
  0 <= n5 /\ n5 <= (s17.l : Int) /\ (s17.l : Int) <= (s17.c : Int) /\ (s17.c : Int) <= (s17.c : Int) /\
  needSome i1 fun a19 =>
  az w4 a19 1 /\ ∀ w20, w20 = w4.setCell a19 (Slc.v (Slc.sub s17 1 (Int.toNat n5) s17.l s17.c)) ->
  K (fG t15) w20))
theorem kA (i1 : Option Addr) (most2 : Int) {w : World} {R : Ending -> World -> Prop} (h : iC i1 most2 w fun v w' => R (.returned v) w') : Calls Tryz.prog bD ⟨[(.pointer i1), (.int .i64 most2)]⟩ w R :=
  ab (ann := .none) ah mixed Tryz.func55 (Eq.mp (by kernel_rfl) h)
def iP (i1 : Option Addr) (w : World) (K : Value -> World -> Prop) : Prop :=
  needSome i1 fun a2 =>
  ∃ n3, w.cell? (a2.add 1) = some (.int .i64 n3) /\
  BIf (decide (n3 = (0 : Int))) (
  needSome i1 fun a4 =>
  ∃ s5, w.cell? a4 = some (Slc.v s5) /\
  BIf (decide ((0 : Int) < (s5.l : Int))) (
  K (.int .i64 (4 : Int)) w) (
  needSome i1 fun a6 =>
  ∃ n7, w.cell? (a6.add 1) = some (.int .i64 n7) /\
  K (.int .i64 n7) w)) (
  needSome i1 fun a8 =>
  ∃ n9, w.cell? (a8.add 1) = some (.int .i64 n9) /\
  K (.int .i64 n9) w)
theorem lG (i1 : Option Addr) {w : World} {R : Ending -> World -> Prop} (h : iP i1 w fun v w' => R (.returned v) w') : Calls Tryz.prog dL ⟨[(.pointer i1)]⟩ w R :=
  ab (ann := .none) ah mixed Tryz.func56 (Eq.mp (by kernel_rfl) h)
end Go.D

