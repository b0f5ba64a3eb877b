/-
  WHAT IS PROVED: verification conditions of functions of this program, each with its soundness. No further conditions.
-/
import Derived.Test.YtnbddjghhmbmcaaGreatDoorBase
set_option linter.unusedSimpArgs false
set_option maxRecDepth 100000
set_option linter.unusedVariables false
namespace Go.D
open Go Go.Proofs
def gT (n1 : Int) (w : World) (K : Value -> World -> Prop) : Prop :=
  aP w (.cells ⟨[]⟩ 65) fun r2 w3 =>
  aP w3 (.cells ⟨[]⟩ 85) fun r4 w5 =>
  ∃ (I6 : (Slc) -> (Slc) -> (Int) -> World -> Prop) (mu7 : (Slc) -> (Slc) -> (Int) -> World -> Nat), I6 ((⟨(some ⟨r2, 0, none⟩), 0, 0⟩ : Slc)) ((⟨(some ⟨r4, 0, none⟩), 0, 0⟩ : Slc)) ((0 : Int)) w5 /\ (
  ∀ us8 : Slc, ∀ ws9 : Slc, ∀ i10 : Int, ∀ w11 : World, I6 us8 ws9 i10 w11 -> ∀ _ _ _ _ _ _ _ _ _ _ _ _ _ _ _ _ _ _ _ _ _ _ _ _ _ _ _ _ _ _ _ _ : Value,
  BIf (decide (i10 < n1)) (
  Calls Tryz.prog jd ⟨[(.int .i64 (128 : Int))]⟩ w11 fun e44 w45 =>
  ∃ p46 : Option Addr, ∃ e47, e44 = .returned (.tuple ⟨[(.pointer p46), e47]⟩) /\
  isI e47 /\
  BIf (!isNilI e47) (
  K (.tuple ⟨[(Slc.v ⟨none, 0, 0⟩), (Slc.v ⟨none, 0, 0⟩)]⟩) w45) (
  Calls Tryz.prog ij ⟨[(.pointer p46)]⟩ w45 fun e48 w49 =>
  ∃ p50 : Option Addr, ∃ e51, e48 = .returned (.tuple ⟨[(.pointer p50), e51]⟩) /\
  isI e51 /\
  BIf (!isNilI e51) (
  K (.tuple ⟨[(Slc.v ⟨none, 0, 0⟩), (Slc.v ⟨none, 0, 0⟩)]⟩) w49) (
  BIf (Option.isNone (p50 : Option Addr)) (
  K (.tuple ⟨[(Slc.v ⟨none, 0, 0⟩), (Slc.v ⟨none, 0, 0⟩)]⟩) w49) (
  aP w49 (.cells ⟨[(.pointer p50)]⟩ 65) fun r52 w53 =>
  aM 1 65 [(.pointer none)] w53 us8 (.slc (⟨(some ⟨r52, 0, none⟩), 1, 1⟩ : Slc)) fun s54 w55 =>
  Calls Tryz.prog eo ⟨[(.int .i64 (2 : Int))]⟩ w55 fun e56 w57 =>
  ∃ p58, e56 = .returned (.pointer p58) /\
  aP w57 (.cells ⟨[(.pointer p58)]⟩ 85) fun r59 w60 =>
  aM 1 85 [(.pointer none)] w60 ws9 (.slc (⟨(some ⟨r59, 0, none⟩), 1, 1⟩ : Slc)) fun s61 w62 =>
  inR .i64 (i10 + (1 : Int)) /\
  (I6 (s54) (s61) ((i10 + (1 : Int))) w62 /\ mu7 (s54) (s61) ((i10 + (1 : Int))) w62 < mu7 us8 ws9 i10 w11))))) (
  K (.tuple ⟨[(Slc.v us8), (Slc.v ws9)]⟩) w11))
theorem j7 (n1 : Int) {w : World} {R : Ending -> World -> Prop} (h : gT n1 w fun v w' => R (.returned v) w') : Calls Tryz.prog cd ⟨[(.int .i64 n1)]⟩ w R :=
  ab (ann := (.two .none (.two .none (.two (.two .none (.one (.loop [(4, Sh.slc), (5, Sh.slc), (12, (Sh.int .i64))] ([2, 3, 6, 7, 8] ++ List.range' 13 27) .none))) .none)))) ag mixed Tryz.func15 (Eq.mp (by kernel_rfl) h)
def gU  (w : World) (K : Value -> World -> Prop) : Prop :=
  Calls Tryz.prog cd ⟨[(.int .i64 (2 : Int))]⟩ w fun e1 w2 =>
  ∃ s3 : Slc, ∃ s4, e1 = .returned (.tuple ⟨[(Slc.v s3), (Slc.v s4)]⟩) /\
  aP w2 (.cells ⟨[(.int .i64 (0 : Int)), (.int .i64 (1 : Int))]⟩ 3) fun r5 w6 =>
  aP w6 (.cells ⟨[(Slc.v (⟨(some ⟨r5, 0, none⟩), 2, 2⟩ : Slc))]⟩ 37) fun r7 w8 =>
  aP w8 (.cells ⟨[(.int .i64 (0 : Int)), (Slc.v ⟨none, 0, 0⟩)]⟩ 24) fun r9 w10 =>
  aJ w10 ⟨r9, 0, none⟩ 2 /\ ∀ w11, w11 = setCells w10 ⟨r9, 0, none⟩ 0 [(.int .i64 (0 : Int)), (Slc.v (⟨(some ⟨r7, 0, none⟩), 1, 1⟩ : Slc))] ->
  BIf (!decide ((s3.l : Int) = (2 : Int))) (
  K (.bool false) w11) (
  ∃ n12 : Int, ∃ s13 : Slc, rowAt w11 ⟨r9, 0, none⟩ 0 [(.int .i64 n12), (Slc.v s13)] /\
  Calls Tryz.prog jK ⟨[(Slc.v s3), (.agg ⟨[(.int .i64 n12), (Slc.v s13)]⟩), (.int .i64 (0 : Int))]⟩ w11 fun e14 w15 =>
  ∃ s16 : Slc, ∃ e17, e14 = .returned (.tuple ⟨[(Slc.v s16), e17]⟩) /\
  isI e17 /\
  BIf (isNilI e17) (
  Calls Tryz.prog lK ⟨[(Slc.v s16)]⟩ w15 fun e18 w19 =>
  ∃ b20, e18 = .returned (.bool b20) /\
  BIf b20 (
  ∃ n21 : Int, ∃ s22 : Slc, rowAt w19 ⟨r9, 0, none⟩ 0 [(.int .i64 n21), (Slc.v s22)] /\
  aP w19 (.cells ⟨[(.int .u8 (97 : Int))]⟩ 5) fun r23 w24 =>
  ∀ w26, w26 = markW w24 r23 ->
  Calls Tryz.prog fS ⟨[(Slc.v s3), (.agg ⟨[(.int .i64 n21), (Slc.v s22)]⟩), (.int .i64 (0 : Int)), (Slc.v (⟨(some ⟨r23, 0, none⟩), 1, 1⟩ : Slc))]⟩ w26 fun e27 w28 =>
  ∃ e29, e27 = .returned e29 /\
  Calls Tryz.prog bk ⟨[e29]⟩ w28 fun e30 w31 =>
  ∃ n32, e30 = .returned (.int .i64 n32) /\
  K (.bool (decide (n32 = (9 : Int)))) w31) (
  K (.bool false) w19)) (
  K (.bool false) w15))
theorem j8  {w : World} {R : Ending -> World -> Prop} (h : gU  w fun v w' => R (.returned v) w') : Calls Tryz.prog dz ⟨[]⟩ w R :=
  ab (ann := .none) ag mixed Tryz.func5 (Eq.mp (by kernel_rfl) h)
def ic (p1 : Int) (p2 : Slc) (w : World) (K : Value -> World -> Prop) : Prop :=
  aP w (.cells ⟨[(.int .i64 p1), (Slc.v p2)]⟩ 24) fun r3 w4 =>
  ∃ s5, w4.cell? ⟨r3, 1, none⟩ = some (Slc.v s5) /\
  BIf (decide ((10 : Int) < (s5.l : Int))) (
  K (.bool true) w4) (
  ∃ s6, w4.cell? ⟨r3, 1, none⟩ = some (Slc.v s6) /\
  ∃ (I7 : (Int) -> World -> Prop) (mu8 : (Int) -> World -> Nat), I7 ((0 : Int)) w4 /\ (
  ∀ i9 : Int, ∀ w10 : World, I7 i9 w10 -> ∀ _ _ _ _ _ _ _ _ _ : Value,
  BIf (decide (i9 < (s6.l : Int))) (
  needSome s6.p fun a20 =>
  0 <= i9 /\ i9 < (s6.l : Int) /\
  ∃ s21, w10.cell? (Addr.add a20 ((Int.toNat i9) * 1)) = some (Slc.v s21) /\
  BIf (decide ((10 : Int) < (s21.l : Int))) (
  K (.bool true) w10) (
  inR .i64 (i9 + (1 : Int)) /\
  (I7 ((i9 + (1 : Int))) w10 /\ mu8 ((i9 + (1 : Int))) w10 < mu8 i9 w10))) (
  K (.bool false) w10)))
theorem kE (p1 : Int) (p2 : Slc) {w : World} {R : Ending -> World -> Prop} (h : ic p1 p2 w fun v w' => R (.returned v) w') : Calls Tryz.prog dP ⟨[(.agg ⟨[(.int .i64 p1), (Slc.v p2)]⟩)]⟩ w R :=
  ab (ann := (.two .none (.two .none (.two (.two .none (.one (.loop [(12, (Sh.int .i64))] [2, 4, 13, 14, 15, 16, 17, 18, 19] .none))) .none)))) ag mixed Tryz.func6 (Eq.mp (by kernel_rfl) h)
def gV (p1 : Int) (p2 : Slc) (w : World) (K : Value -> World -> Prop) : Prop :=
  aP w (.cells ⟨[(.int .i64 p1), (Slc.v p2)]⟩ 24) fun r3 w4 =>
  ∃ n5 : Int, ∃ s6 : Slc, rowAt w4.drew ⟨r3, 0, none⟩ 0 [(.int .i64 n5), (Slc.v s6)] /\
  ∃ n7 : Int, ∃ s8 : Slc, rowAt w4.drew ⟨r3, 0, none⟩ 0 [(.int .i64 n7), (Slc.v s8)] /\
  Calls Tryz.prog ky ⟨[(.agg ⟨[(.int .i64 n7), (Slc.v s8)]⟩)]⟩ w4.drew fun e9 w10 =>
  ∃ x11 : Int, ∃ x12, e9 = .returned (.agg ⟨[(.int .i64 x11), (Slc.v x12)]⟩) /\
  (∃ n13 : Int, ∃ s14 : Slc, rowAt w10 ⟨r3, 0, none⟩ 0 [(.int .i64 n13), (Slc.v s14)] /\
  (Value.agg ⟨[(Value.int .i64 n13), (Slc.v s14)]⟩) = (Value.agg ⟨[(Value.int .i64 n5), (Slc.v s6)]⟩)) /\
  aP w10 (.cells ⟨[(Slc.v ⟨none, 0, 0⟩), (Slc.v ⟨none, 0, 0⟩), (Slc.v ⟨none, 0, 0⟩), (Slc.v ⟨none, 0, 0⟩), (.int .i64 n5), (Slc.v s6), (.int .i64 x11), (Slc.v x12)]⟩ 36) fun r15 w16 =>
  Calls Tryz.prog cd ⟨[(.int .i64 (6 : Int))]⟩ w16 fun e17 w18 =>
  ∃ s19 : Slc, ∃ s20, e17 = .returned (.tuple ⟨[(Slc.v s19), (Slc.v s20)]⟩) /\
  aJ w18 ⟨r15, 0, none⟩ 1 /\ ∀ w21, w21 = w18.setCell ⟨r15, 0, none⟩ (Slc.v s19) ->
  aJ w21 ⟨r15, 2, none⟩ 1 /\ ∀ w22, w22 = w21.setCell ⟨r15, 2, none⟩ (Slc.v s20) ->
  ∃ s23, w22.drew.cell? ⟨r15, 0, none⟩ = some (Slc.v s23) /\
  ∃ s24, w22.drew.cell? ⟨r15, 2, none⟩ = some (Slc.v s24) /\
  (
  aP w22.drew (.cells ⟨[]⟩ 65) fun r25 w26 =>
  (∃ s27, w26.cell? ⟨r15, 2, none⟩ = some (Slc.v s27) /\
  (Slc.v s27) = (Slc.v s24)) /\
  (∃ s28, w26.cell? ⟨r15, 0, none⟩ = some (Slc.v s28) /\
  (Slc.v s28) = (Slc.v s23)) /\
  (
  aM 1 65 [(.pointer none)] w26 (⟨(some ⟨r25, 0, none⟩), 0, 0⟩ : Slc) (.slc s23) fun s29 w30 =>
  (∃ s31, w30.cell? ⟨r15, 2, none⟩ = some (Slc.v s31) /\
  (Slc.v s31) = (Slc.v s24)) /\
  aP w30 (.cells ⟨[]⟩ 85) fun r32 w33 =>
  (∃ s34, w33.cell? ⟨r15, 2, none⟩ = some (Slc.v s34) /\
  (Slc.v s34) = (Slc.v s24)) /\
  aM 1 85 [(.pointer none)] w33 (⟨(some ⟨r32, 0, none⟩), 0, 0⟩ : Slc) (.slc s24) fun s35 w36 =>
  aJ w36 ⟨r15, 1, none⟩ 1 /\ ∀ w37, w37 = w36.setCell ⟨r15, 1, none⟩ (Slc.v s29) ->
  aJ w37 ⟨r15, 3, none⟩ 1 /\ ∀ w38, w38 = w37.setCell ⟨r15, 3, none⟩ (Slc.v s35) ->
  K (.pointer (some ⟨r15, 0, none⟩)) w38) /\
  (
  aP w26 (.cells ⟨[]⟩ 85) fun r39 w40 =>
  (∃ s41, w40.cell? ⟨r15, 2, none⟩ = some (Slc.v s41) /\
  (Slc.v s41) = (Slc.v s24)) /\
  (∃ s42, w40.cell? ⟨r15, 0, none⟩ = some (Slc.v s42) /\
  (Slc.v s42) = (Slc.v s23)) /\
  aM 1 65 [(.pointer none)] w40 (⟨(some ⟨r25, 0, none⟩), 0, 0⟩ : Slc) (.slc s23) fun s43 w44 =>
  (∃ s45, w44.cell? ⟨r15, 2, none⟩ = some (Slc.v s45) /\
  (Slc.v s45) = (Slc.v s24)) /\
  aM 1 85 [(.pointer none)] w44 (⟨(some ⟨r39, 0, none⟩), 0, 0⟩ : Slc) (.slc s24) fun s46 w47 =>
  aJ w47 ⟨r15, 1, none⟩ 1 /\ ∀ w48, w48 = w47.setCell ⟨r15, 1, none⟩ (Slc.v s43) ->
  aJ w48 ⟨r15, 3, none⟩ 1 /\ ∀ w49, w49 = w48.setCell ⟨r15, 3, none⟩ (Slc.v s46) ->
  K (.pointer (some ⟨r15, 0, none⟩)) w49)) /\
  (
  aP w22.drew (.cells ⟨[]⟩ 85) fun r50 w51 =>
  (∃ s52, w51.cell? ⟨r15, 2, none⟩ = some (Slc.v s52) /\
  (Slc.v s52) = (Slc.v s24)) /\
  (∃ s53, w51.cell? ⟨r15, 0, none⟩ = some (Slc.v s53) /\
  (Slc.v s53) = (Slc.v s23)) /\
  aP w51 (.cells ⟨[]⟩ 65) fun r54 w55 =>
  (∃ s56, w55.cell? ⟨r15, 2, none⟩ = some (Slc.v s56) /\
  (Slc.v s56) = (Slc.v s24)) /\
  (∃ s57, w55.cell? ⟨r15, 0, none⟩ = some (Slc.v s57) /\
  (Slc.v s57) = (Slc.v s23)) /\
  aM 1 65 [(.pointer none)] w55 (⟨(some ⟨r54, 0, none⟩), 0, 0⟩ : Slc) (.slc s23) fun s58 w59 =>
  (∃ s60, w59.cell? ⟨r15, 2, none⟩ = some (Slc.v s60) /\
  (Slc.v s60) = (Slc.v s24)) /\
  aM 1 85 [(.pointer none)] w59 (⟨(some ⟨r50, 0, none⟩), 0, 0⟩ : Slc) (.slc s24) fun s61 w62 =>
  aJ w62 ⟨r15, 1, none⟩ 1 /\ ∀ w63, w63 = w62.setCell ⟨r15, 1, none⟩ (Slc.v s58) ->
  aJ w63 ⟨r15, 3, none⟩ 1 /\ ∀ w64, w64 = w63.setCell ⟨r15, 3, none⟩ (Slc.v s61) ->
  K (.pointer (some ⟨r15, 0, none⟩)) w64)
theorem j9 (p1 : Int) (p2 : Slc) {w : World} {R : Ending -> World -> Prop} (h : gV p1 p2 w fun v w' => R (.returned v) w') : Calls Tryz.prog dA ⟨[(.agg ⟨[(.int .i64 p1), (Slc.v p2)]⟩)]⟩ w R :=
  ab (ann := .none) ag mixed Tryz.func8 (Eq.mp (by kernel_rfl) h)
end Go.D

