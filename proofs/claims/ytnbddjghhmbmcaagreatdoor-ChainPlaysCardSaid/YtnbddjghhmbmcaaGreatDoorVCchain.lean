/-
  WHAT IS PROVED: verification conditions of functions of this program, each with its soundness. No further conditions.
-/
import Derived.Test.YtnbddjghhmbmcaaGreatDoorBase
set_option linter.unusedSimpArgs false
set_option maxRecDepth 100000
set_option linter.unusedVariables false
namespace Go.D
open Go Go.Proofs
def qB (us1 : Slc) (n2 : Int) (w : World) (K : Value -> World -> Prop) : Prop :=
  BIf (decide (n2 < 0)) (
  ∃ v3, w.drew.cell? ⟨dW, 0, none⟩ = some v3 /\
  K (.tuple ⟨[(.pointer none), v3]⟩) w.drew) (
  BIf (decide ((us1.l : Int) <= n2)) (
  ∃ v4, w.drew.cell? ⟨dW, 0, none⟩ = some v4 /\
  K (.tuple ⟨[(.pointer none), v4]⟩) w.drew) (
  needSome us1.p fun a5 =>
  0 <= n2 /\ n2 < (us1.l : Int) /\
  ∃ p6 : Option Addr, w.cell? (Addr.add a5 ((Int.toNat n2) * 1)) = some (.pointer p6) /\
  BIf (Option.isNone (p6 : Option Addr)) (
  ∃ v7, w.drew.cell? ⟨dW, 0, none⟩ = some v7 /\
  K (.tuple ⟨[(.pointer none), v7]⟩) w.drew) (
  needSome us1.p fun a8 =>
  0 <= n2 /\ n2 < (us1.l : Int) /\
  ∃ p9 : Option Addr, w.cell? (Addr.add a8 ((Int.toNat n2) * 1)) = some (.pointer p9) /\
  K (.tuple ⟨[(.pointer p9), .nilIface]⟩) w)))
theorem tJ (us1 : Slc) (n2 : Int) {w : World} {R : Ending -> World -> Prop} (h : qB us1 n2 w fun v w' => R (.returned v) w') : Calls Tryz.prog cn ⟨[us1.v, (.int .i64 n2)]⟩ w R :=
  ab (ann := .none) ag mixed Tryz.func28 (Eq.mp (by kernel_rfl) h)
def vp (p1 : Int) (p2 : Slc) (a3 : Int) (w : World) (K : Value -> World -> Prop) : Prop :=
  aA w (.cells ⟨[(.int .i64 p1), p2.v]⟩ 24) fun r4 w5 =>
  ∃ n6 : Int, ∃ s7 : Slc, rowAt w5 ⟨r4, 0, none⟩ 0 [(.int .i64 n6), s7.v] /\
  Calls Tryz.prog ni ⟨[(.agg ⟨[(.int .i64 n6), s7.v]⟩), (.int .i64 a3)]⟩ w5 fun e8 w9 =>
  ∃ n10 : Int, ∃ n11 : Int, ∃ e12, e8 = .returned (.tuple ⟨[(.int .i64 n10), (.int .i64 n11), e12]⟩) /\
  isI e12 /\
  BIf (!isNilI e12) (
  K (.tuple ⟨[(Slc.v ⟨none, 0, 0⟩), (.int .i64 0), e12]⟩) w9) (
  ∃ s13, w9.cell? ⟨r4, 1, none⟩ = some (Slc.v s13) /\
  needSome s13.p fun a14 =>
  0 <= n10 /\ n10 < (s13.l : Int) /\
  ∃ s15, w9.cell? (Addr.add a14 ((Int.toNat n10) * 1)) = some (Slc.v s15) /\
  K (.tuple ⟨[s15.v, (.int .i64 n11), .nilIface]⟩) w9)
theorem xC (p1 : Int) (p2 : Slc) (a3 : Int) {w : World} {R : Ending -> World -> Prop} (h : vp p1 p2 a3 w fun v w' => R (.returned v) w') : Calls Tryz.prog ff ⟨[(.agg ⟨[(.int .i64 p1), p2.v]⟩), (.int .i64 a3)]⟩ w R :=
  ab (ann := .none) ag mixed Tryz.func25 (Eq.mp (by kernel_rfl) h)
def mH (s1 : Slc) (s2 : Slc) (w : World) (K : Value -> World -> Prop) : Prop :=
  BIf (!decide ((s1.l : Int) = (s2.l : Int))) (
  K (.bool false) w) (
  ∃ (I3 : (Int) -> World -> Prop) (mu4 : (Int) -> World -> Nat), I3 ((0 : Int)) w /\ (
  ∀ i5 : Int, ∀ w6 : World, I3 i5 w6 -> ∀ _ _ _ _ _ _ _ _ _ _ _ _ _ _ : Value,
  BIf (decide (i5 < (s1.l : Int))) (
  needSome s1.p fun a21 =>
  0 <= i5 /\ i5 < (s1.l : Int) /\
  ∃ n22, w6.drew.cell? (Addr.add a21 ((Int.toNat i5) * 1)) = some (.int .u8 n22) /\
  needSome s2.p fun a23 =>
  0 <= i5 /\ i5 < (s2.l : Int) /\
  ∃ n24, w6.drew.cell? (Addr.add a23 ((Int.toNat i5) * 1)) = some (.int .u8 n24) /\
  BIf (!decide (n22 = n24)) (
  K (.bool false) w6.drew) (
  inR .i64 (i5 + 1) /\
  (I3 ((i5 + 1)) w6.drew /\ mu4 ((i5 + 1)) w6.drew < mu4 i5 w6))) (
  K (.bool true) w6)))
theorem qC (s1 : Slc) (s2 : Slc) {w : World} {R : Ending -> World -> Prop} (h : mH s1 s2 w fun v w' => R (.returned v) w') : Calls Tryz.prog gp ⟨[s1.v, s2.v]⟩ w R :=
  ab (ann := (.two .none (.two .none (.two (.two .none (.one (.loop [(13, (Sh.int .i64))] ([4, 5] ++ List.range' 14 12) .none))) .none)))) ag mixed Tryz.func55 (Eq.mp (by kernel_rfl) h)
def tK (us1 : Slc) (n2 : Int) (epoch3 : Int) (at4 : Int) (first5 : Bool) (b6 : Slc) (w : World) (K : Value -> World -> Prop) : Prop :=
  Calls Tryz.prog cn ⟨[us1.v, (.int .i64 n2)]⟩ w fun e7 w8 =>
  ∃ p9 : Option Addr, ∃ e10, e7 = .returned (.tuple ⟨[(.pointer p9), e10]⟩) /\
  isI e10 /\
  BIf (!isNilI e10) (
  K e10 w8) (
  Calls Tryz.prog iz ⟨[(.pointer p9), (.int .i64 epoch3), (.int .i64 at4), b6.v]⟩ w8 fun e11 w12 =>
  ∃ e13, e11 = .returned e13 /\
  ∃ J14 : World -> Prop,
  (
  BIf first5 (
  K e13 w12) (
  ∃ v15, w12.cell? ⟨eK, 0, none⟩ = some v15 /\
  Calls Tryz.prog gK ⟨[e13, v15]⟩ w12 fun e16 w17 =>
  ∃ b18, e16 = .returned (.bool b18) /\
  BIf (!b18) (
  K e13 w17) (
  J14 w17))) /\ (
  ∀ w19 : World, J14 w19 -> ∀ _ _ _ _ _ _ _ _ _ : Value,
  Calls Tryz.prog cq ⟨[(.pointer p9), (.int .i64 epoch3), (.int .i64 at4)]⟩ w19 fun e29 w30 =>
  ∃ s31 : Slc, ∃ e32, e29 = .returned (.tuple ⟨[s31.v, e32]⟩) /\
  isI e32 /\
  BIf (!isNilI e32) (
  K e32 w30) (
  Calls Tryz.prog gp ⟨[s31.v, b6.v]⟩ w30 fun e33 w34 =>
  ∃ b35, e33 = .returned (.bool b35) /\
  BIf (!b35) (
  ∃ v36, w34.cell? ⟨iR, 0, none⟩ = some v36 /\
  K v36 w34) (
  K .nilIface w34))))
theorem vT (us1 : Slc) (n2 : Int) (epoch3 : Int) (at4 : Int) (first5 : Bool) (b6 : Slc) {w : World} {R : Ending -> World -> Prop} (h : tK us1 n2 epoch3 at4 first5 b6 w fun v w' => R (.returned v) w') : Calls Tryz.prog ey ⟨[us1.v, (.int .i64 n2), (.int .i64 epoch3), (.int .i64 at4), (.bool first5), b6.v]⟩ w R :=
  ab (ann := (.two .none (.two .none (.two .none (.two .none (.cut [] ([12] ++ List.range' 30 8) .none .none)))))) ag mixed Tryz.func26 (Eq.mp (by kernel_rfl) h)
def xD (us1 : Slc) (p2 : Int) (p3 : Slc) (a4 : Int) (k5 : Int) (b6 : Slc) (w : World) (K : Value -> World -> Prop) : Prop :=
  aA w (.cells ⟨[(.int .i64 p2), p3.v]⟩ 24) fun r7 w8 =>
  ∃ n9 : Int, ∃ s10 : Slc, rowAt w8 ⟨r7, 0, none⟩ 0 [(.int .i64 n9), s10.v] /\
  Calls Tryz.prog ff ⟨[(.agg ⟨[(.int .i64 n9), s10.v]⟩), (.int .i64 a4)]⟩ w8 fun e11 w12 =>
  ∃ s13 : Slc, ∃ n14 : Int, ∃ e15, e11 = .returned (.tuple ⟨[s13.v, (.int .i64 n14), e15]⟩) /\
  isI e15 /\
  BIf (!isNilI e15) (
  K e15 w12) (
  BIf (decide (k5 < 0)) (
  ∃ v16, w12.cell? ⟨aD, 0, none⟩ = some v16 /\
  K v16 w12) (
  BIf (decide ((s13.l : Int) <= k5)) (
  ∃ v17, w12.cell? ⟨aD, 0, none⟩ = some v17 /\
  K v17 w12) (
  needSome s13.p fun a18 =>
  0 <= k5 /\ k5 < (s13.l : Int) /\
  ∃ n19, w12.drew.cell? (Addr.add a18 ((Int.toNat k5) * 1)) = some (.int .i64 n19) /\
  ∃ n20, w12.drew.cell? ⟨r7, 0, none⟩ = some (.int .i64 n20) /\
  Calls Tryz.prog ey ⟨[us1.v, (.int .i64 n19), (.int .i64 n20), (.int .i64 n14), (.bool (decide (k5 = 0))), b6.v]⟩ w12.drew fun e21 w22 =>
  ∃ e23, e21 = .returned e23 /\
  K e23 w22)))
theorem y9 (us1 : Slc) (p2 : Int) (p3 : Slc) (a4 : Int) (k5 : Int) (b6 : Slc) {w : World} {R : Ending -> World -> Prop} (h : xD us1 p2 p3 a4 k5 b6 w fun v w' => R (.returned v) w') : Calls Tryz.prog fV ⟨[us1.v, (.agg ⟨[(.int .i64 p2), p3.v]⟩), (.int .i64 a4), (.int .i64 k5), b6.v]⟩ w R :=
  ab (ann := .none) ag mixed Tryz.func33 (Eq.mp (by kernel_rfl) h)
def tL (us1 : Slc) (epoch2 : Int) (copies3 : Slc) (at4 : Int) (b5 : Slc) (w : World) (K : Value -> World -> Prop) : Prop :=
  BIf (decide ((copies3.l : Int) = (0 : Int))) (
  K .nilIface w) (
  0 <= (1 : Int) /\ (1 : Int) <= (copies3.l : Int) /\ (copies3.l : Int) <= (copies3.c : Int) /\ (copies3.c : Int) <= (copies3.c : Int) /\
  ∃ (I7 : (Int) -> World -> Prop) (mu8 : (Int) -> World -> Nat), I7 ((0 : Int)) w /\ (
  ∀ i9 : Int, ∀ w10 : World, I7 i9 w10 -> ∀ _ _ _ _ _ _ _ _ _ _ _ _ _ _ _ _ : Value,
  BIf (decide (i9 < (((Slc.sub copies3 1 1 copies3.l copies3.c).l : Nat) : Int))) (
  needSome (Slc.sub copies3 1 1 copies3.l copies3.c).p fun a27 =>
  0 <= i9 /\ i9 < (((Slc.sub copies3 1 1 copies3.l copies3.c).l : Nat) : Int) /\
  ∃ n28, w10.cell? (Addr.add a27 ((Int.toNat i9) * 1)) = some (.int .i64 n28) /\
  Calls Tryz.prog ey ⟨[us1.v, (.int .i64 n28), (.int .i64 epoch2), (.int .i64 at4), (.bool false), b5.v]⟩ w10 fun e29 w30 =>
  ∃ e31, e29 = .returned e31 /\
  isI e31 /\
  BIf (!isNilI e31) (
  K e31 w30) (
  inR .i64 (i9 + 1) /\
  (I7 ((i9 + 1)) w30 /\ mu8 ((i9 + 1)) w30 < mu8 i9 w10))) (
  K .nilIface w10)))
theorem vU (us1 : Slc) (epoch2 : Int) (copies3 : Slc) (at4 : Int) (b5 : Slc) {w : World} {R : Ending -> World -> Prop} (h : tL us1 epoch2 copies3 at4 b5 w fun v w' => R (.returned v) w') : Calls Tryz.prog bS ⟨[us1.v, (.int .i64 epoch2), copies3.v, (.int .i64 at4), b5.v]⟩ w R :=
  ab (ann := (.two .none (.two .none (.two (.two .none (.one (.loop [(20, (Sh.int .i64))] ([10, 12, 13] ++ List.range' 21 13) .none))) .none)))) ag mixed Tryz.func27 (Eq.mp (by kernel_rfl) h)
def vq (us1 : Slc) (p2 : Int) (p3 : Slc) (a4 : Int) (b5 : Slc) (w : World) (K : Value -> World -> Prop) : Prop :=
  aA w (.cells ⟨[(.int .i64 p2), p3.v]⟩ 24) fun r6 w7 =>
  ∃ n8 : Int, ∃ s9 : Slc, rowAt w7 ⟨r6, 0, none⟩ 0 [(.int .i64 n8), s9.v] /\
  Calls Tryz.prog ff ⟨[(.agg ⟨[(.int .i64 n8), s9.v]⟩), (.int .i64 a4)]⟩ w7 fun e10 w11 =>
  ∃ s12 : Slc, ∃ n13 : Int, ∃ e14, e10 = .returned (.tuple ⟨[s12.v, (.int .i64 n13), e14]⟩) /\
  isI e14 /\
  BIf (!isNilI e14) (
  K e14 w11) (
  needSome s12.p fun a15 =>
  0 <= (0 : Int) /\ (0 : Int) < (s12.l : Int) /\
  ∃ n16, w11.drew.cell? a15 = some (.int .i64 n16) /\
  ∃ n17, w11.drew.cell? ⟨r6, 0, none⟩ = some (.int .i64 n17) /\
  Calls Tryz.prog ey ⟨[us1.v, (.int .i64 n16), (.int .i64 n17), (.int .i64 n13), (.bool true), b5.v]⟩ w11.drew fun e18 w19 =>
  ∃ e20, e18 = .returned e20 /\
  isI e20 /\
  BIf (!isNilI e20) (
  K e20 w19) (
  ∃ n21, w19.cell? ⟨r6, 0, none⟩ = some (.int .i64 n21) /\
  Calls Tryz.prog bS ⟨[us1.v, (.int .i64 n21), s12.v, (.int .i64 n13), b5.v]⟩ w19 fun e22 w23 =>
  ∃ e24, e22 = .returned e24 /\
  K e24 w23))
theorem xE (us1 : Slc) (p2 : Int) (p3 : Slc) (a4 : Int) (b5 : Slc) {w : World} {R : Ending -> World -> Prop} (h : vq us1 p2 p3 a4 b5 w fun v w' => R (.returned v) w') : Calls Tryz.prog dP ⟨[us1.v, (.agg ⟨[(.int .i64 p2), p3.v]⟩), (.int .i64 a4), b5.v]⟩ w R :=
  ab (ann := .none) ag mixed Tryz.func10 (Eq.mp (by kernel_rfl) h)
def xF (us1 : Slc) (p2 : Int) (p3 : Slc) (a4 : Int) (w : World) (K : Value -> World -> Prop) : Prop :=
  aA w (.cells ⟨[(.int .i64 p2), p3.v]⟩ 24) fun r5 w6 =>
  ∃ n7 : Int, ∃ s8 : Slc, rowAt w6 ⟨r5, 0, none⟩ 0 [(.int .i64 n7), s8.v] /\
  Calls Tryz.prog ff ⟨[(.agg ⟨[(.int .i64 n7), s8.v]⟩), (.int .i64 a4)]⟩ w6 fun e9 w10 =>
  ∃ s11 : Slc, ∃ n12 : Int, ∃ e13, e9 = .returned (.tuple ⟨[s11.v, (.int .i64 n12), e13]⟩) /\
  isI e13 /\
  BIf (!isNilI e13) (
  K (.tuple ⟨[(Slc.v ⟨none, 0, 0⟩), e13]⟩) w10) (
  inR .i64 ((s11.l : Int) - (1 : Int)) /\
  needSome s11.p fun a14 =>
  0 <= ((s11.l : Int) - (1 : Int)) /\ ((s11.l : Int) - (1 : Int)) < (s11.l : Int) /\
  ∃ n15, w10.cell? (Addr.add a14 ((Int.toNat ((s11.l : Int) - (1 : Int))) * 1)) = some (.int .i64 n15) /\
  Calls Tryz.prog cn ⟨[us1.v, (.int .i64 n15)]⟩ w10 fun e16 w17 =>
  ∃ p18 : Option Addr, ∃ e19, e16 = .returned (.tuple ⟨[(.pointer p18), e19]⟩) /\
  isI e19 /\
  BIf (!isNilI e19) (
  K (.tuple ⟨[(Slc.v ⟨none, 0, 0⟩), e19]⟩) w17) (
  ∃ n20, w17.cell? ⟨r5, 0, none⟩ = some (.int .i64 n20) /\
  Calls Tryz.prog cq ⟨[(.pointer p18), (.int .i64 n20), (.int .i64 n12)]⟩ w17 fun e21 w22 =>
  ∃ s23 : Slc, ∃ e24, e21 = .returned (.tuple ⟨[s23.v, e24]⟩) /\
  ∃ J25 : World -> Prop,
  (
  ∃ v26, w22.cell? ⟨ez, 0, none⟩ = some v26 /\
  Calls Tryz.prog gK ⟨[e24, v26]⟩ w22 fun e27 w28 =>
  ∃ b29, e27 = .returned (.bool b29) /\
  BIf (!b29) (
  K (.tuple ⟨[s23.v, e24]⟩) w28) (
  BIf (decide ((s11.l : Int) = (1 : Int))) (
  K (.tuple ⟨[s23.v, e24]⟩) w28) (
  J25 w28))) /\ (
  ∀ w30 : World, J25 w30 -> ∀ _ _ _ _ _ _ _ _ _ _ _ _ _ : Value,
  needSome s11.p fun a44 =>
  0 <= (0 : Int) /\ (0 : Int) < (s11.l : Int) /\
  ∃ n45, w30.cell? a44 = some (.int .i64 n45) /\
  Calls Tryz.prog cn ⟨[us1.v, (.int .i64 n45)]⟩ w30 fun e46 w47 =>
  ∃ p48 : Option Addr, ∃ e49, e46 = .returned (.tuple ⟨[(.pointer p48), e49]⟩) /\
  isI e49 /\
  BIf (!isNilI e49) (
  K (.tuple ⟨[(Slc.v ⟨none, 0, 0⟩), e49]⟩) w47) (
  ∃ n50, w47.cell? ⟨r5, 0, none⟩ = some (.int .i64 n50) /\
  Calls Tryz.prog cq ⟨[(.pointer p48), (.int .i64 n50), (.int .i64 n12)]⟩ w47 fun e51 w52 =>
  ∃ s53 : Slc, ∃ e54, e51 = .returned (.tuple ⟨[s53.v, e54]⟩) /\
  isI e54 /\
  BIf (!isNilI e54) (
  K (.tuple ⟨[(Slc.v ⟨none, 0, 0⟩), e54]⟩) w52) (
  ∃ n55, w52.cell? ⟨r5, 0, none⟩ = some (.int .i64 n55) /\
  Calls Tryz.prog bS ⟨[us1.v, (.int .i64 n55), s11.v, (.int .i64 n12), s53.v]⟩ w52 fun e56 w57 =>
  ∃ e58, e56 = .returned e58 /\
  isI e58 /\
  BIf (!isNilI e58) (
  K (.tuple ⟨[(Slc.v ⟨none, 0, 0⟩), e58]⟩) w57) (
  K (.tuple ⟨[s53.v, .nilIface]⟩) w57))))))
theorem zc (us1 : Slc) (p2 : Int) (p3 : Slc) (a4 : Int) {w : World} {R : Ending -> World -> Prop} (h : xF us1 p2 p3 a4 w fun v w' => R (.returned v) w') : Calls Tryz.prog nf ⟨[us1.v, (.agg ⟨[(.int .i64 p2), p3.v]⟩), (.int .i64 a4)]⟩ w R :=
  ab (ann := (.two .none (.two .none (.two .none (.two .none (.two .none (.two .none (.cut [] ([6, 7] ++ List.range' 47 11) .none .none)))))))) ag mixed Tryz.func11 (Eq.mp (by kernel_rfl) h)
def xG (us1 : Slc) (p2 : Int) (p3 : Slc) (a4 : Int) (w : World) (K : Value -> World -> Prop) : Prop :=
  aA w (.cells ⟨[(.int .i64 p2), p3.v]⟩ 24) fun r5 w6 =>
  ∃ n7 : Int, ∃ s8 : Slc, rowAt w6 ⟨r5, 0, none⟩ 0 [(.int .i64 n7), s8.v] /\
  Calls Tryz.prog ff ⟨[(.agg ⟨[(.int .i64 n7), s8.v]⟩), (.int .i64 a4)]⟩ w6 fun e9 w10 =>
  ∃ s11 : Slc, ∃ n12 : Int, ∃ e13, e9 = .returned (.tuple ⟨[s11.v, (.int .i64 n12), e13]⟩) /\
  isI e13 /\
  BIf (!isNilI e13) (
  K (.tuple ⟨[(Slc.v ⟨none, 0, 0⟩), e13]⟩) w10) (
  Calls Tryz.prog oL ⟨[]⟩ w10 fun e14 w15 =>
  ∃ s16, e14 = .returned (Slc.v s16) /\
  needSome s11.p fun a17 =>
  0 <= (0 : Int) /\ (0 : Int) < (s11.l : Int) /\
  ∃ n18, w15.drew.cell? a17 = some (.int .i64 n18) /\
  ∃ n19, w15.drew.cell? ⟨r5, 0, none⟩ = some (.int .i64 n19) /\
  Calls Tryz.prog ey ⟨[us1.v, (.int .i64 n18), (.int .i64 n19), (.int .i64 n12), (.bool true), s16.v]⟩ w15.drew fun e20 w21 =>
  ∃ e22, e20 = .returned e22 /\
  ∃ J23 : (Value) -> (Slc) -> World -> Prop,
  (
  ∃ v24, w21.cell? ⟨eK, 0, none⟩ = some v24 /\
  Calls Tryz.prog gK ⟨[e22, v24]⟩ w21 fun e25 w26 =>
  ∃ b27, e25 = .returned (.bool b27) /\
  BIf b27 (
  needSome s11.p fun a28 =>
  0 <= (0 : Int) /\ (0 : Int) < (s11.l : Int) /\
  ∃ n29, w26.drew.cell? a28 = some (.int .i64 n29) /\
  needSome us1.p fun a30 =>
  0 <= n29 /\ n29 < (us1.l : Int) /\
  ∃ p31 : Option Addr, w26.drew.cell? (Addr.add a30 ((Int.toNat n29) * 1)) = some (.pointer p31) /\
  ∃ n32, w26.drew.cell? ⟨r5, 0, none⟩ = some (.int .i64 n32) /\
  Calls Tryz.prog cq ⟨[(.pointer p31), (.int .i64 n32), (.int .i64 n12)]⟩ w26.drew fun e33 w34 =>
  ∃ s35 : Slc, ∃ e36, e33 = .returned (.tuple ⟨[s35.v, e36]⟩) /\
  J23 (e36) (s35) w34) (
  J23 (e22) (s16) w26)) /\ (
  ∀ err37 : Value, ∀ b38 : Slc, ∀ w39 : World, J23 err37 b38 w39 -> ∀ _ _ _ _ _ _ _ _ _ _ _ _ _ _ _ _ : Value,
  isI err37 /\
  BIf (!isNilI err37) (
  K (.tuple ⟨[(Slc.v ⟨none, 0, 0⟩), err37]⟩) w39) (
  ∃ n56, w39.cell? ⟨r5, 0, none⟩ = some (.int .i64 n56) /\
  Calls Tryz.prog bS ⟨[us1.v, (.int .i64 n56), s11.v, (.int .i64 n12), b38.v]⟩ w39 fun e57 w58 =>
  ∃ e59, e57 = .returned e59 /\
  isI e59 /\
  BIf (!isNilI e59) (
  K (.tuple ⟨[(Slc.v ⟨none, 0, 0⟩), e59]⟩) w58) (
  K (.tuple ⟨[b38.v, .nilIface]⟩) w58))))
theorem zd (us1 : Slc) (p2 : Int) (p3 : Slc) (a4 : Int) {w : World} {R : Ending -> World -> Prop} (h : xG us1 p2 p3 a4 w fun v w' => R (.returned v) w') : Calls Tryz.prog jQ ⟨[us1.v, (.agg ⟨[(.int .i64 p2), p3.v]⟩), (.int .i64 a4)]⟩ w R :=
  ab (ann := (.two .none (.two .none (.two .none (.two .none (.two .none (.cut [(10, Sh.any), (11, Sh.slc)] (List.range' 33 16) .none .none))))))) ag mixed Tryz.func16 (Eq.mp (by kernel_rfl) h)
def vr (to1 : Int) (chain2 : Int) (chains3 : Int) (w : World) (K : Value -> World -> Prop) : Prop :=
  inR .i64 (to1 - chain2) /\
  inR .i64 ((to1 - chain2) + chains3) /\
  inR .i64 (((to1 - chain2) + chains3) - (1 : Int)) /\
  0 <= (((to1 - chain2) + chains3) - (1 : Int)) /\ 0 < chains3 /\ inR .i64 (((to1 - chain2) + chains3) - (1 : Int)) /\
  K (.int .i64 ((((to1 - chain2) + chains3) - (1 : Int)) / chains3)) w
theorem xH (to1 : Int) (chain2 : Int) (chains3 : Int) {w : World} {R : Ending -> World -> Prop} (h : vr to1 chain2 chains3 w fun v w' => R (.returned v) w') : Calls Tryz.prog lD ⟨[(.int .i64 to1), (.int .i64 chain2), (.int .i64 chains3)]⟩ w R :=
  ab (ann := .none) ag mixed Tryz.func31 (Eq.mp (by kernel_rfl) h)
def xI (us1 : Slc) (p2 : Int) (p3 : Slc) (to4 : Int) (w : World) (K : Value -> World -> Prop) : Prop :=
  aA w (.cells ⟨[(.int .i64 p2), p3.v]⟩ 24) fun r5 w6 =>
  ∃ J7 : World -> Prop,
  (
  ∃ n8 : Int, ∃ s9 : Slc, rowAt w6 ⟨r5, 0, none⟩ 0 [(.int .i64 n8), s9.v] /\
  Calls Tryz.prog dJ ⟨[(.agg ⟨[(.int .i64 n8), s9.v]⟩)]⟩ w6 fun e10 w11 =>
  ∃ b12, e10 = .returned (.bool b12) /\
  BIf (!b12) (
  ∃ v13, w11.cell? ⟨aH, 0, none⟩ = some v13 /\
  K v13 w11) (
  BIf (decide (to4 < 0)) (
  ∃ v14, w11.cell? ⟨aD, 0, none⟩ = some v14 /\
  K v14 w11) (
  BIf (decide (4096 < to4)) (
  ∃ v15, w11.cell? ⟨aD, 0, none⟩ = some v15 /\
  K v15 w11) (
  J7 w11)))) /\ (
  ∀ w16 : World, J7 w16 -> ∀ _ _ _ _ _ _ _ _ _ _ _ _ _ _ : Value,
  ∃ s31, w16.cell? ⟨r5, 1, none⟩ = some (Slc.v s31) /\
  ∃ (I32 : (Int) -> World -> Prop) (mu33 : (Int) -> World -> Nat), I32 ((0 : Int)) w16 /\ (
  ∀ i34 : Int, ∀ w35 : World, I32 i34 w35 -> ∀ _ _ _ _ _ _ _ _ _ _ _ _ _ _ _ _ _ _ _ _ _ _ _ _ _ _ _ _ _ _ _ _ _ _ _ _ _ _ _ _ _ _ _ _ : Value,
  BIf (decide (i34 < (s31.l : Int))) (
  needSome s31.p fun a80 =>
  0 <= i34 /\ i34 < (s31.l : Int) /\
  ∃ s81, w35.cell? (Addr.add a80 ((Int.toNat i34) * 1)) = some (Slc.v s81) /\
  ∃ s82, w35.cell? ⟨r5, 1, none⟩ = some (Slc.v s82) /\
  Calls Tryz.prog lD ⟨[(.int .i64 to4), (.int .i64 i34), (.int .i64 (s82.l : Int))]⟩ w35 fun e83 w84 =>
  ∃ n85, e83 = .returned (.int .i64 n85) /\
  ∃ (I86 : (Int) -> World -> Prop) (mu87 : (Int) -> World -> Nat), I86 ((0 : Int)) w84 /\ (
  ∀ i88 : Int, ∀ w89 : World, I86 i88 w89 -> ∀ _ _ _ _ _ _ _ _ _ _ _ _ _ _ _ _ _ _ _ _ _ _ _ _ _ _ : Value,
  BIf (decide (i88 < (s81.l : Int))) (
  needSome s81.p fun a116 =>
  0 <= i88 /\ i88 < (s81.l : Int) /\
  ∃ n117, w89.cell? (Addr.add a116 ((Int.toNat i88) * 1)) = some (.int .i64 n117) /\
  Calls Tryz.prog cn ⟨[us1.v, (.int .i64 n117)]⟩ w89 fun e118 w119 =>
  ∃ p120 : Option Addr, ∃ e121, e118 = .returned (.tuple ⟨[(.pointer p120), e121]⟩) /\
  isI e121 /\
  BIf (!isNilI e121) (
  K e121 w119) (
  ∃ n122, w119.cell? ⟨r5, 0, none⟩ = some (.int .i64 n122) /\
  Calls Tryz.prog iY ⟨[(.pointer p120), (.int .i64 n122), (.int .i64 (if n85 > (0 : Int) then n85 else (0 : Int)))]⟩ w119 fun e123 w124 =>
  ∃ e125, e123 = .returned e125 /\
  isI e125 /\
  BIf (!isNilI e125) (
  K e125 w124) (
  inR .i64 (i88 + 1) /\
  (I86 ((i88 + 1)) w124 /\ mu87 ((i88 + 1)) w124 < mu87 i88 w89)))) (
  inR .i64 (i34 + 1) /\
  (I32 ((i34 + 1)) w89 /\ mu33 ((i34 + 1)) w89 < mu33 i34 w35)))) (
  K .nilIface w35)))
theorem ze (us1 : Slc) (p2 : Int) (p3 : Slc) (to4 : Int) {w : World} {R : Ending -> World -> Prop} (h : xI us1 p2 p3 to4 w fun v w' => R (.returned v) w') : Calls Tryz.prog ng ⟨[us1.v, (.agg ⟨[(.int .i64 p2), p3.v]⟩), (.int .i64 to4)]⟩ w R :=
  ab (ann := (.two .none (.cut [] ([6] ++ List.range' 15 13) .none (.two (.two .none (.one (.loop [(31, (Sh.int .i64))] ([6, 7, 8, 9, 11, 12, 13, 14] ++ List.range' 32 36) (.two .none (.two .none (.two (.one (.two .none (.two .none (.two .none (.one (.loop [(45, (Sh.int .i64))] ([6, 11, 12, 13, 14] ++ List.range' 46 21) .none)))))) .none)))))) .none)))) ag mixed Tryz.func12 (Eq.mp (by kernel_rfl) h)
def xJ (us1 : Slc) (p2 : Int) (p3 : Slc) (w : World) (K : Value -> World -> Prop) : Prop :=
  aA w (.cells ⟨[(.int .i64 p2), p3.v]⟩ 24) fun r4 w5 =>
  ∃ n6 : Int, ∃ s7 : Slc, rowAt w5 ⟨r4, 0, none⟩ 0 [(.int .i64 n6), s7.v] /\
  Calls Tryz.prog dJ ⟨[(.agg ⟨[(.int .i64 n6), s7.v]⟩)]⟩ w5 fun e8 w9 =>
  ∃ b10, e8 = .returned (.bool b10) /\
  BIf (!b10) (
  ∃ v11, w9.drew.cell? ⟨aH, 0, none⟩ = some v11 /\
  K (.tuple ⟨[(.int .i64 0), v11]⟩) w9.drew) (
  ∃ s12, w9.cell? ⟨r4, 1, none⟩ = some (Slc.v s12) /\
  ∃ (I13 : (Slc) -> (Int) -> World -> Prop) (mu14 : (Slc) -> (Int) -> World -> Nat), I13 (⟨none, 0, 0⟩) ((0 : Int)) w9 /\ (
  ∀ tails15 : Slc, ∀ i16 : Int, ∀ w17 : World, I13 tails15 i16 w17 -> ∀ _ _ _ _ _ _ _ _ _ _ _ _ _ _ _ _ _ _ _ _ _ _ _ _ _ : Value,
  BIf (decide (i16 < (s12.l : Int))) (
  needSome s12.p fun a43 =>
  0 <= i16 /\ i16 < (s12.l : Int) /\
  ∃ s44, w17.cell? (Addr.add a43 ((Int.toNat i16) * 1)) = some (Slc.v s44) /\
  needSome s44.p fun a45 =>
  0 <= (0 : Int) /\ (0 : Int) < (s44.l : Int) /\
  ∃ n46, w17.cell? a45 = some (.int .i64 n46) /\
  Calls Tryz.prog cn ⟨[us1.v, (.int .i64 n46)]⟩ w17 fun e47 w48 =>
  ∃ p49 : Option Addr, ∃ e50, e47 = .returned (.tuple ⟨[(.pointer p49), e50]⟩) /\
  isI e50 /\
  BIf (!isNilI e50) (
  K (.tuple ⟨[(.int .i64 0), e50]⟩) w48) (
  Calls Tryz.prog eF ⟨[(.pointer p49)]⟩ w48 fun e51 w52 =>
  ∃ n53, e51 = .returned (.int .i64 n53) /\
  aA w52 (.cells ⟨[(.int .i64 n53)]⟩ 3) fun r54 w55 =>
  ak 1 3 [(.int .i64 0)] w55 tails15 (.slc (⟨(some ⟨r54, 0, none⟩), 1, 1⟩ : Slc)) fun s56 w57 =>
  inR .i64 (i16 + 1) /\
  (I13 (s56) ((i16 + 1)) w57 /\ mu14 (s56) ((i16 + 1)) w57 < mu14 tails15 i16 w17))) (
  ∃ n58 : Int, ∃ s59 : Slc, rowAt w17 ⟨r4, 0, none⟩ 0 [(.int .i64 n58), s59.v] /\
  Calls Tryz.prog oM ⟨[(.agg ⟨[(.int .i64 n58), s59.v]⟩), tails15.v]⟩ w17 fun e60 w61 =>
  ∃ n62, e60 = .returned (.int .i64 n62) /\
  K (.tuple ⟨[(.int .i64 n62), .nilIface]⟩) w61)))
theorem zg (us1 : Slc) (p2 : Int) (p3 : Slc) {w : World} {R : Ending -> World -> Prop} (h : xJ us1 p2 p3 w fun v w' => R (.returned v) w') : Calls Tryz.prog nh ⟨[us1.v, (.agg ⟨[(.int .i64 p2), p3.v]⟩)]⟩ w R :=
  ab (ann := (.two .none (.two .none (.two .none (.two (.two .none (.one (.loop [(6, Sh.slc), (18, (Sh.int .i64))] ([4, 5, 8, 9, 10] ++ List.range' 19 20) .none))) .none))))) ag mixed Tryz.func40 (Eq.mp (by kernel_rfl) h)
end Go.D

