/-
  WHAT IS PROVED: verification conditions of functions of this program, each with its soundness. No further conditions.
-/
import Derived.Test.YtnbddjghhmbmcaaGreatDoorBase
set_option linter.unusedSimpArgs false
set_option maxRecDepth 100000
set_option linter.unusedVariables false
namespace Go.D
open Go Go.Proofs
def j0 (n1 : Int) (w : World) (K : Value -> World -> Prop) : Prop :=
  aA w (.cells ⟨[]⟩ 65) fun r2 w3 =>
  aA w3 (.cells ⟨[]⟩ 85) fun r4 w5 =>
  ∃ (I6 : (Slc) -> (Slc) -> (Int) -> World -> Prop) (mu7 : (Slc) -> (Slc) -> (Int) -> World -> Nat), I6 ((⟨(some ⟨r2, 0, none⟩), 0, 0⟩ : Slc)) ((⟨(some ⟨r4, 0, none⟩), 0, 0⟩ : Slc)) ((0 : Int)) w5 /\ (
  ∀ us8 : Slc, ∀ ws9 : Slc, ∀ i10 : Int, ∀ w11 : World, I6 us8 ws9 i10 w11 -> ∀ _ _ _ _ _ _ _ _ _ _ _ _ _ _ _ _ _ _ _ _ _ _ _ _ _ _ _ _ _ _ _ _ : Value,
  BIf (decide (i10 < n1)) (
  Calls Tryz.prog mv ⟨[(.int .i64 128)]⟩ w11 fun e44 w45 =>
  ∃ p46 : Option Addr, ∃ e47, e44 = .returned (.tuple ⟨[(.pointer p46), e47]⟩) /\
  isI e47 /\
  BIf (!isNilI e47) (
  K (.tuple ⟨[(Slc.v ⟨none, 0, 0⟩), (Slc.v ⟨none, 0, 0⟩)]⟩) w45) (
  Calls Tryz.prog kX ⟨[(.pointer p46)]⟩ w45 fun e48 w49 =>
  ∃ p50 : Option Addr, ∃ e51, e48 = .returned (.tuple ⟨[(.pointer p50), e51]⟩) /\
  isI e51 /\
  BIf (!isNilI e51) (
  K (.tuple ⟨[(Slc.v ⟨none, 0, 0⟩), (Slc.v ⟨none, 0, 0⟩)]⟩) w49) (
  BIf (Option.isNone (p50 : Option Addr)) (
  K (.tuple ⟨[(Slc.v ⟨none, 0, 0⟩), (Slc.v ⟨none, 0, 0⟩)]⟩) w49) (
  aA w49 (.cells ⟨[(.pointer p50)]⟩ 65) fun r52 w53 =>
  ak 1 65 [(.pointer none)] w53 us8 (.slc (⟨(some ⟨r52, 0, none⟩), 1, 1⟩ : Slc)) fun s54 w55 =>
  Calls Tryz.prog fX ⟨[(.int .i64 2)]⟩ w55 fun e56 w57 =>
  ∃ p58, e56 = .returned (.pointer p58) /\
  aA w57 (.cells ⟨[(.pointer p58)]⟩ 85) fun r59 w60 =>
  ak 1 85 [(.pointer none)] w60 ws9 (.slc (⟨(some ⟨r59, 0, none⟩), 1, 1⟩ : Slc)) fun s61 w62 =>
  inR .i64 (i10 + 1) /\
  (I6 (s54) (s61) ((i10 + 1)) w62 /\ mu7 (s54) (s61) ((i10 + 1)) w62 < mu7 us8 ws9 i10 w11))))) (
  K (.tuple ⟨[us8.v, ws9.v]⟩) w11))
theorem nT (n1 : Int) {w : World} {R : Ending -> World -> Prop} (h : j0 n1 w fun v w' => R (.returned v) w') : Calls Tryz.prog dh ⟨[(.int .i64 n1)]⟩ w R :=
  ab (ann := (.two .none (.two .none (.two (.two .none (.one (.loop [(4, Sh.slc), (5, Sh.slc), (12, (Sh.int .i64))] ([2, 3, 6, 7, 8] ++ List.range' 13 27) .none))) .none)))) ag mixed Tryz.func15 (Eq.mp (by kernel_rfl) h)
def j1  (w : World) (K : Value -> World -> Prop) : Prop :=
  Calls Tryz.prog dh ⟨[(.int .i64 2)]⟩ w fun e1 w2 =>
  ∃ s3 : Slc, ∃ s4, e1 = .returned (.tuple ⟨[s3.v, (Slc.v s4)]⟩) /\
  aA w2 (.cells ⟨[(.int .i64 0), (.int .i64 1)]⟩ 3) fun r5 w6 =>
  aA w6 (.cells ⟨[(Slc.v (⟨(some ⟨r5, 0, none⟩), 2, 2⟩ : Slc))]⟩ 37) fun r7 w8 =>
  aA w8 (.cells ⟨[(.int .i64 0), (Slc.v ⟨none, 0, 0⟩)]⟩ 24) fun r9 w10 =>
  aw w10 ⟨r9, 0, none⟩ 2 /\ ∀ w11, w11 = setCells w10 ⟨r9, 0, none⟩ 0 [(.int .i64 0), (Slc.v (⟨(some ⟨r7, 0, none⟩), 1, 1⟩ : Slc))] ->
  BIf (!decide ((s3.l : Int) = (2 : Int))) (
  K (.bool false) w11) (
  ∃ n12 : Int, ∃ s13 : Slc, rowAt w11 ⟨r9, 0, none⟩ 0 [(.int .i64 n12), s13.v] /\
  Calls Tryz.prog jQ ⟨[s3.v, (.agg ⟨[(.int .i64 n12), s13.v]⟩), (.int .i64 0)]⟩ w11 fun e14 w15 =>
  ∃ s16 : Slc, ∃ e17, e14 = .returned (.tuple ⟨[s16.v, e17]⟩) /\
  isI e17 /\
  BIf (isNilI e17) (
  Calls Tryz.prog qi ⟨[s16.v]⟩ w15 fun e18 w19 =>
  ∃ b20, e18 = .returned (.bool b20) /\
  BIf b20 (
  ∃ n21 : Int, ∃ s22 : Slc, rowAt w19 ⟨r9, 0, none⟩ 0 [(.int .i64 n21), s22.v] /\
  aA w19 (.cells ⟨[(.int .u8 97)]⟩ 5) fun r23 w24 =>
  ∀ w26, w26 = markW w24 r23 ->
  Calls Tryz.prog dP ⟨[s3.v, (.agg ⟨[(.int .i64 n21), s22.v]⟩), (.int .i64 0), (Slc.v (⟨(some ⟨r23, 0, none⟩), 1, 1⟩ : Slc))]⟩ w26 fun e27 w28 =>
  ∃ e29, e27 = .returned e29 /\
  Calls Tryz.prog az ⟨[e29]⟩ w28 fun e30 w31 =>
  ∃ n32, e30 = .returned (.int .i64 n32) /\
  K (.bool (decide (n32 = 9))) w31) (
  K (.bool false) w19)) (
  K (.bool false) w15))
theorem nV  {w : World} {R : Ending -> World -> Prop} (h : j1  w fun v w' => R (.returned v) w') : Calls Tryz.prog fb ⟨[]⟩ w R :=
  ab (ann := .none) ag mixed Tryz.func5 (Eq.mp (by kernel_rfl) h)
def kO (p1 : Int) (p2 : Slc) (w : World) (K : Value -> World -> Prop) : Prop :=
  aA w (.cells ⟨[(.int .i64 p1), p2.v]⟩ 24) fun r3 w4 =>
  ∃ s5, w4.cell? ⟨r3, 1, none⟩ = some (Slc.v s5) /\
  BIf (decide ((10 : Int) < (s5.l : Int))) (
  K (.bool true) w4) (
  ∃ s6, w4.cell? ⟨r3, 1, none⟩ = some (Slc.v s6) /\
  ∃ (I7 : (Int) -> World -> Prop) (mu8 : (Int) -> World -> Nat), I7 ((0 : Int)) w4 /\ (
  ∀ i9 : Int, ∀ w10 : World, I7 i9 w10 -> ∀ _ _ _ _ _ _ _ _ _ : Value,
  BIf (decide (i9 < (s6.l : Int))) (
  needSome s6.p fun a20 =>
  0 <= i9 /\ i9 < (s6.l : Int) /\
  ∃ s21, w10.cell? (Addr.add a20 ((Int.toNat i9) * 1)) = some (Slc.v s21) /\
  BIf (decide ((10 : Int) < (s21.l : Int))) (
  K (.bool true) w10) (
  inR .i64 (i9 + 1) /\
  (I7 ((i9 + 1)) w10 /\ mu8 ((i9 + 1)) w10 < mu8 i9 w10))) (
  K (.bool false) w10)))
theorem oT (p1 : Int) (p2 : Slc) {w : World} {R : Ending -> World -> Prop} (h : kO p1 p2 w fun v w' => R (.returned v) w') : Calls Tryz.prog fy ⟨[(.agg ⟨[(.int .i64 p1), p2.v]⟩)]⟩ w R :=
  ab (ann := (.two .none (.two .none (.two (.two .none (.one (.loop [(12, (Sh.int .i64))] [2, 4, 13, 14, 15, 16, 17, 18, 19] .none))) .none)))) ag mixed Tryz.func6 (Eq.mp (by kernel_rfl) h)
def j2 (p1 : Int) (p2 : Slc) (w : World) (K : Value -> World -> Prop) : Prop :=
  aA w (.cells ⟨[(.int .i64 p1), p2.v]⟩ 24) fun r3 w4 =>
  ∃ n5 : Int, ∃ s6 : Slc, rowAt w4.drew ⟨r3, 0, none⟩ 0 [(.int .i64 n5), s6.v] /\
  ∃ n7 : Int, ∃ s8 : Slc, rowAt w4.drew ⟨r3, 0, none⟩ 0 [(.int .i64 n7), s8.v] /\
  Calls Tryz.prog oK ⟨[(.agg ⟨[(.int .i64 n7), s8.v]⟩)]⟩ w4.drew fun e9 w10 =>
  ∃ x11 : Int, ∃ x12, e9 = .returned (.agg ⟨[(.int .i64 x11), (Slc.v x12)]⟩) /\
  (ckRx w10 ⟨r3, 0, none⟩ n5 s6) /\
  aA w10 (.cells ⟨[(Slc.v ⟨none, 0, 0⟩), (Slc.v ⟨none, 0, 0⟩), (Slc.v ⟨none, 0, 0⟩), (Slc.v ⟨none, 0, 0⟩), (.int .i64 n5), s6.v, (.int .i64 x11), x12.v]⟩ 36) fun r15 w16 =>
  Calls Tryz.prog dh ⟨[(.int .i64 6)]⟩ w16 fun e17 w18 =>
  ∃ s19 : Slc, ∃ s20, e17 = .returned (.tuple ⟨[s19.v, (Slc.v s20)]⟩) /\
  aw w18 ⟨r15, 0, none⟩ 1 /\ ∀ w21, w21 = w18.setCell ⟨r15, 0, none⟩ s19.v ->
  aw w21 ⟨r15, 2, none⟩ 1 /\ ∀ w22, w22 = w21.setCell ⟨r15, 2, none⟩ s20.v ->
  ∃ s23, w22.drew.cell? ⟨r15, 0, none⟩ = some (Slc.v s23) /\
  ∃ s24, w22.drew.cell? ⟨r15, 2, none⟩ = some (Slc.v s24) /\
  (
  aA w22.drew (.cells ⟨[]⟩ 65) fun r25 w26 =>
  (ckSx (w26.cell? ⟨r15, 2, none⟩) s24) /\
  (ckSx (w26.cell? ⟨r15, 0, none⟩) s23) /\
  (
  ak 1 65 [(.pointer none)] w26 (⟨(some ⟨r25, 0, none⟩), 0, 0⟩ : Slc) (.slc s23) fun s29 w30 =>
  (ckSx (w30.cell? ⟨r15, 2, none⟩) s24) /\
  aA w30 (.cells ⟨[]⟩ 85) fun r32 w33 =>
  (ckSx (w33.cell? ⟨r15, 2, none⟩) s24) /\
  ak 1 85 [(.pointer none)] w33 (⟨(some ⟨r32, 0, none⟩), 0, 0⟩ : Slc) (.slc s24) fun s35 w36 =>
  aw w36 ⟨r15, 1, none⟩ 1 /\ ∀ w37, w37 = w36.setCell ⟨r15, 1, none⟩ (Slc.v s29) ->
  aw w37 ⟨r15, 3, none⟩ 1 /\ ∀ w38, w38 = w37.setCell ⟨r15, 3, none⟩ (Slc.v s35) ->
  K (.pointer (some ⟨r15, 0, none⟩)) w38) /\
  (
  aA w26 (.cells ⟨[]⟩ 85) fun r39 w40 =>
  (ckSx (w40.cell? ⟨r15, 2, none⟩) s24) /\
  (ckSx (w40.cell? ⟨r15, 0, none⟩) s23) /\
  ak 1 65 [(.pointer none)] w40 (⟨(some ⟨r25, 0, none⟩), 0, 0⟩ : Slc) (.slc s23) fun s43 w44 =>
  (ckSx (w44.cell? ⟨r15, 2, none⟩) s24) /\
  ak 1 85 [(.pointer none)] w44 (⟨(some ⟨r39, 0, none⟩), 0, 0⟩ : Slc) (.slc s24) fun s46 w47 =>
  aw w47 ⟨r15, 1, none⟩ 1 /\ ∀ w48, w48 = w47.setCell ⟨r15, 1, none⟩ (Slc.v s43) ->
  aw w48 ⟨r15, 3, none⟩ 1 /\ ∀ w49, w49 = w48.setCell ⟨r15, 3, none⟩ (Slc.v s46) ->
  K (.pointer (some ⟨r15, 0, none⟩)) w49)) /\
  (
  aA w22.drew (.cells ⟨[]⟩ 85) fun r50 w51 =>
  (ckSx (w51.cell? ⟨r15, 2, none⟩) s24) /\
  (ckSx (w51.cell? ⟨r15, 0, none⟩) s23) /\
  aA w51 (.cells ⟨[]⟩ 65) fun r54 w55 =>
  (ckSx (w55.cell? ⟨r15, 2, none⟩) s24) /\
  (ckSx (w55.cell? ⟨r15, 0, none⟩) s23) /\
  ak 1 65 [(.pointer none)] w55 (⟨(some ⟨r54, 0, none⟩), 0, 0⟩ : Slc) (.slc s23) fun s58 w59 =>
  (ckSx (w59.cell? ⟨r15, 2, none⟩) s24) /\
  ak 1 85 [(.pointer none)] w59 (⟨(some ⟨r50, 0, none⟩), 0, 0⟩ : Slc) (.slc s24) fun s61 w62 =>
  aw w62 ⟨r15, 1, none⟩ 1 /\ ∀ w63, w63 = w62.setCell ⟨r15, 1, none⟩ (Slc.v s58) ->
  aw w63 ⟨r15, 3, none⟩ 1 /\ ∀ w64, w64 = w63.setCell ⟨r15, 3, none⟩ (Slc.v s61) ->
  K (.pointer (some ⟨r15, 0, none⟩)) w64)
theorem nX (p1 : Int) (p2 : Slc) {w : World} {R : Ending -> World -> Prop} (h : j2 p1 p2 w fun v w' => R (.returned v) w') : Calls Tryz.prog fe ⟨[(.agg ⟨[(.int .i64 p1), p2.v]⟩)]⟩ w R :=
  ab (ann := .none) ag mixed Tryz.func8 (Eq.mp (by kernel_rfl) h)
end Go.D

