/-
  WHAT IS PROVED: verification conditions of functions of this program, each with its soundness. No further conditions.
-/
import Derived.Test.YtnbddjghhmbmcaaGreatDoorBase
set_option linter.unusedSimpArgs false
set_option maxRecDepth 100000
set_option linter.unusedVariables false
namespace Go.D
open Go Go.Proofs
def j4 (p1 : Int) (p2 : Slc) (w : World) (K : Value -> World -> Prop) : Prop :=
  aA w (.cells ⟨[(.int .i64 p1), p2.v]⟩ 34) fun r3 w4 =>
  ∃ J5 : World -> Prop,
  (
  ∃ n6, w4.cell? ⟨r3, 0, none⟩ = some (.int .i64 n6) /\
  BIf (decide (n6 < 0)) (
  K (.bool false) w4) (
  ∃ n7, w4.cell? ⟨r3, 0, none⟩ = some (.int .i64 n7) /\
  BIf (decide (1073741824 < n7)) (
  K (.bool false) w4) (
  ∃ s8, w4.cell? ⟨r3, 1, none⟩ = some (Slc.v s8) /\
  BIf (decide ((s8.l : Int) < (1 : Int))) (
  K (.bool false) w4) (
  ∃ s9, w4.cell? ⟨r3, 1, none⟩ = some (Slc.v s9) /\
  BIf (decide ((3 : Int) < (s9.l : Int))) (
  K (.bool false) w4) (
  J5 w4))))) /\ (
  ∀ w10 : World, J5 w10 -> ∀ _ _ _ _ _ _ _ _ _ _ _ _ _ _ _ _ _ _ _ _ _ : Value,
  aA w10 (.cells ⟨[]⟩ 3) fun r32 w33 =>
  ∃ s34, w33.cell? ⟨r3, 1, none⟩ = some (Slc.v s34) /\
  ∃ (I35 : (Slc) -> (Int) -> World -> Prop) (mu36 : (Slc) -> (Int) -> World -> Nat), I35 ((⟨(some ⟨r32, 0, none⟩), 0, 0⟩ : Slc)) ((0 : Int)) w33 /\ (
  ∀ seen37 : Slc, ∀ i38 : Int, ∀ w39 : World, I35 seen37 i38 w39 -> ∀ _ _ _ _ _ _ _ _ _ _ _ _ _ _ _ _ _ _ _ _ _ _ _ _ _ _ _ _ _ _ _ _ _ _ _ _ _ : Value,
  BIf (decide (i38 < (s34.l : Int))) (
  needSome s34.p fun a77 =>
  0 <= i38 /\ i38 < (s34.l : Int) /\
  ∃ s78, w39.cell? (Addr.add a77 ((Int.toNat i38) * 1)) = some (Slc.v s78) /\
  ∃ J79 : World -> Prop,
  (
  BIf (decide ((s78.l : Int) < (1 : Int))) (
  K (.bool false) w39) (
  BIf (decide ((3 : Int) < (s78.l : Int))) (
  K (.bool false) w39) (
  J79 w39))) /\ (
  ∀ w80 : World, J79 w80 -> ∀ _ _ _ _ _ _ _ _ _ : Value,
  ∃ (I90 : (Slc) -> (Int) -> World -> Prop) (mu91 : (Slc) -> (Int) -> World -> Nat), I90 (seen37) ((0 : Int)) w80 /\ (
  ∀ seen92 : Slc, ∀ i93 : Int, ∀ w94 : World, I90 seen92 i93 w94 -> ∀ _ _ _ _ _ _ _ _ _ _ _ _ _ _ _ _ _ _ _ _ _ : Value,
  BIf (decide (i93 < (s78.l : Int))) (
  needSome s78.p fun a116 =>
  0 <= i93 /\ i93 < (s78.l : Int) /\
  ∃ n117, w94.cell? (Addr.add a116 ((Int.toNat i93) * 1)) = some (.int .i64 n117) /\
  BIf (decide (n117 < 0)) (
  K (.bool false) w94) (
  BIf (decide (11 < n117)) (
  K (.bool false) w94) (
  Calls Tryz.prog iC ⟨[seen92.v, (.int .i64 n117)]⟩ w94 fun e118 w119 =>
  ∃ b120, e118 = .returned (.bool b120) /\
  BIf b120 (
  K (.bool false) w119) (
  aA w119 (.cells ⟨[(.int .i64 n117)]⟩ 3) fun r121 w122 =>
  ak 1 3 [(.int .i64 0)] w122 seen92 (.slc (⟨(some ⟨r121, 0, none⟩), 1, 1⟩ : Slc)) fun s123 w124 =>
  inR .i64 (i93 + 1) /\
  (I90 (s123) ((i93 + 1)) w124 /\ mu91 (s123) ((i93 + 1)) w124 < mu91 seen92 i93 w94))))) (
  inR .i64 (i38 + 1) /\
  (I35 (seen92) ((i38 + 1)) w94 /\ mu36 (seen92) ((i38 + 1)) w94 < mu36 seen37 i38 w39))))) (
  K (.bool true) w39)))
theorem oc (p1 : Int) (p2 : Slc) {w : World} {R : Ending -> World -> Prop} (h : j4 p1 p2 w fun v w' => R (.returned v) w') : Calls Tryz.prog bX ⟨[(.agg ⟨[(.int .i64 p1), p2.v]⟩)]⟩ w R :=
  ab (ann := (.two .none (.cut [] ([2] ++ List.range' 8 20) .none (.two .none (.two (.two .none (.one (.loop [(3, Sh.slc), (32, (Sh.int .i64))] ([2, 5, 7] ++ List.range' 33 34) (.two .none (.two .none (.two (.one (.two .none (.cut [] ([2] ++ List.range' 36 8) .none (.two .none (.one (.loop [(3, Sh.slc), (46, (Sh.int .i64))] ([2, 7] ++ List.range' 47 19) .none)))))) .none)))))) .none))))) ag mixed Tryz.func68 (Eq.mp (by kernel_rfl) h)
def kP (p1 : Int) (p2 : Slc) (tails3 : Slc) (w : World) (K : Value -> World -> Prop) : Prop :=
  aA w (.cells ⟨[(.int .i64 p1), p2.v]⟩ 34) fun r4 w5 =>
  ∃ s6, w5.cell? ⟨r4, 1, none⟩ = some (Slc.v s6) /\
  ∃ (I7 : (Int) -> (Int) -> World -> Prop) (mu8 : (Int) -> (Int) -> World -> Nat), I7 ((0 : Int)) ((0 : Int)) w5 /\ (
  ∀ out9 : Int, ∀ c10 : Int, ∀ w11 : World, I7 out9 c10 w11 -> ∀ _ _ _ _ _ _ _ _ _ _ _ _ _ _ _ _ _ _ _ _ _ _ _ _ _ _ _ _ _ _ _ _ _ _ _ _ _ _ : Value,
  ∃ J50 : World -> Prop,
  (
  BIf (decide (c10 < (s6.l : Int))) (
  BIf (decide (c10 < (tails3.l : Int))) (
  J50 w11) (
  K (.int .i64 out9) w11)) (
  K (.int .i64 out9) w11)) /\ (
  ∀ w51 : World, J50 w51 -> ∀ _ _ _ _ _ _ _ _ _ : Value,
  needSome tails3.p fun a61 =>
  0 <= c10 /\ c10 < (tails3.l : Int) /\
  ∃ n62, w51.cell? (Addr.add a61 ((Int.toNat c10) * 1)) = some (.int .i64 n62) /\
  ∃ J63 : (Int) -> World -> Prop,
  (
  BIf (decide (4096 < n62)) (
  J63 ((4096 : Int)) w51) (
  J63 (n62) w51)) /\ (
  ∀ t64 : Int, ∀ w65 : World, J63 t64 w65 -> ∀ _ _ : Value,
  BIf (decide (0 < t64)) (
  inR .i64 (t64 - 1) /\
  inR .i64 ((t64 - 1) * (s6.l : Int)) /\
  inR .i64 (((t64 - 1) * (s6.l : Int)) + c10) /\
  inR .i64 ((((t64 - 1) * (s6.l : Int)) + c10) + (1 : Int)) /\
  BIf (decide (out9 < ((((t64 - 1) * (s6.l : Int)) + c10) + (1 : Int)))) (
  inR .i64 (t64 - 1) /\
  inR .i64 ((t64 - 1) * (s6.l : Int)) /\
  inR .i64 (((t64 - 1) * (s6.l : Int)) + c10) /\
  inR .i64 ((((t64 - 1) * (s6.l : Int)) + c10) + (1 : Int)) /\
  inR .i64 (c10 + 1) /\
  (I7 (((((t64 - 1) * (s6.l : Int)) + c10) + (1 : Int))) ((c10 + 1)) w65 /\ mu8 (((((t64 - 1) * (s6.l : Int)) + c10) + (1 : Int))) ((c10 + 1)) w65 < mu8 out9 c10 w11)) (
  inR .i64 (c10 + 1) /\
  (I7 (out9) ((c10 + 1)) w65 /\ mu8 (out9) ((c10 + 1)) w65 < mu8 out9 c10 w11))) (
  inR .i64 (c10 + 1) /\
  (I7 (out9) ((c10 + 1)) w65 /\ mu8 (out9) ((c10 + 1)) w65 < mu8 out9 c10 w11)))))
theorem oU (p1 : Int) (p2 : Slc) (tails3 : Slc) {w : World} {R : Ending -> World -> Prop} (h : kP p1 p2 tails3 w fun v w' => R (.returned v) w') : Calls Tryz.prog fG ⟨[(.agg ⟨[(.int .i64 p1), p2.v]⟩), tails3.v]⟩ w R :=
  ab (ann := (.two .none (.two .none (.two .none (.two (.two .none (.one (.loop [(6, (Sh.int .i64)), (7, (Sh.int .i64))] ([8] ++ List.range' 12 37) (.cut [] (List.range' 12 9) .none (.two (.one (.two .none (.cut [(8, (Sh.int .i64))] [27, 28] .none .none))) .none))))) .none))))) ag mixed Tryz.func73 (Eq.mp (by kernel_rfl) h)
end Go.D

