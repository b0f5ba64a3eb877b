/-
  WHAT IS PROVED: verification conditions of functions of this program, each with its soundness. No further conditions.
-/
import Derived.Test.YtnbddjghhmbmcaaGreatDoorBase
set_option linter.unusedSimpArgs false
set_option maxRecDepth 100000
set_option linter.unusedVariables false
namespace Go.D
open Go Go.Proofs
def iU (us1 : Slc) (n2 : Int) (w : World) (K : Value -> World -> Prop) : Prop :=
  BIf (decide (0 <= n2)) (
  BIf (decide (n2 < (us1.l : Int))) (
  needSome us1.p fun a3 =>
  0 <= n2 /\ n2 < (us1.l : Int) /\
  ∃ p4 : Option Addr, w.cell? (Addr.add a3 ((Int.toNat n2) * 1)) = some (.pointer p4) /\
  K (.bool (!Option.isNone (p4 : Option Addr))) w) (
  K (.bool false) w)) (
  K (.bool false) w)
theorem lS (us1 : Slc) (n2 : Int) {w : World} {R : Ending -> World -> Prop} (h : iU us1 n2 w fun v w' => R (.returned v) w') : Calls Tryz.prog aY ⟨[us1.v, (.int .i64 n2)]⟩ w R :=
  ab (ann := .none) ag mixed Tryz.func66 (Eq.mp (by kernel_rfl) h)
def j5 (p1 : Int) (p2 : Slc) (a3 : Int) (w : World) (K : Value -> World -> Prop) : Prop :=
  aA w (.cells ⟨[(.int .i64 p1), p2.v]⟩ 34) fun r4 w5 =>
  ∃ n6 : Int, ∃ s7 : Slc, rowAt w5 ⟨r4, 0, none⟩ 0 [(.int .i64 n6), s7.v] /\
  Calls Tryz.prog bX ⟨[(.agg ⟨[(.int .i64 n6), s7.v]⟩)]⟩ w5 fun e8 w9 =>
  ∃ b10, e8 = .returned (.bool b10) /\
  BIf (!b10) (
  K (.tuple ⟨[(Slc.v ⟨none, 0, 0⟩), (.int .i64 0), (.int .i64 4)]⟩) w9) (
  ∃ J11 : World -> Prop,
  (
  BIf (decide (a3 < 0)) (
  K (.tuple ⟨[(Slc.v ⟨none, 0, 0⟩), (.int .i64 0), (.int .i64 1)]⟩) w9) (
  BIf (decide (4095 < a3)) (
  K (.tuple ⟨[(Slc.v ⟨none, 0, 0⟩), (.int .i64 0), (.int .i64 1)]⟩) w9) (
  J11 w9))) /\ (
  ∀ w12 : World, J11 w12 -> ∀ _ _ _ _ _ _ _ _ _ : Value,
  ∃ s22, w12.cell? ⟨r4, 1, none⟩ = some (Slc.v s22) /\
  ∃ s23, w12.drew.cell? ⟨r4, 1, none⟩ = some (Slc.v s23) /\
  0 <= a3 /\ 0 < (s22.l : Int) /\
  needSome s23.p fun a24 =>
  0 <= (a3 % (s22.l : Int)) /\ (a3 % (s22.l : Int)) < (s23.l : Int) /\
  ∃ s25, w12.drew.cell? (Addr.add a24 ((Int.toNat (a3 % (s22.l : Int))) * 1)) = some (Slc.v s25) /\
  0 <= a3 /\ 0 < (s22.l : Int) /\ inR .i64 a3 /\
  K (.tuple ⟨[s25.v, (.int .i64 (a3 / (s22.l : Int))), (.int .i64 0)]⟩) w12.drew))
theorem oe (p1 : Int) (p2 : Slc) (a3 : Int) {w : World} {R : Ending -> World -> Prop} (h : j5 p1 p2 a3 w fun v w' => R (.returned v) w') : Calls Tryz.prog bF ⟨[(.agg ⟨[(.int .i64 p1), p2.v]⟩), (.int .i64 a3)]⟩ w R :=
  ab (ann := (.two .none (.two .none (.cut [] [4, 5, 6, 11, 12, 13, 14, 15, 16] .none .none)))) ag mixed Tryz.func63 (Eq.mp (by kernel_rfl) h)
def ij (us1 : Slc) (copies2 : Slc) (k3 : Int) (epoch4 : Int) (at5 : Int) (b6 : Slc) (w : World) (K : Value -> World -> Prop) : Prop :=
  needSome copies2.p fun a7 =>
  0 <= k3 /\ k3 < (copies2.l : Int) /\
  ∃ n8, w.cell? (Addr.add a7 ((Int.toNat k3) * 1)) = some (.int .i64 n8) /\
  Calls Tryz.prog aY ⟨[us1.v, (.int .i64 n8)]⟩ w fun e9 w10 =>
  ∃ b11, e9 = .returned (.bool b11) /\
  BIf (!b11) (
  K (.int .i64 12) w10) (
  needSome copies2.p fun a12 =>
  0 <= k3 /\ k3 < (copies2.l : Int) /\
  ∃ n13, w10.cell? (Addr.add a12 ((Int.toNat k3) * 1)) = some (.int .i64 n13) /\
  needSome us1.p fun a14 =>
  0 <= n13 /\ n13 < (us1.l : Int) /\
  ∃ p15 : Option Addr, w10.cell? (Addr.add a14 ((Int.toNat n13) * 1)) = some (.pointer p15) /\
  Calls Tryz.prog dq ⟨[(.pointer p15), (.int .i64 epoch4), (.int .i64 at5), b6.v]⟩ w10 fun e16 w17 =>
  ∃ n18, e16 = .returned (.int .i64 n18) /\
  ∃ J19 : World -> Prop,
  (
  BIf (!decide (n18 = 9)) (
  K (.int .i64 n18) w17) (
  BIf (decide (k3 = 0)) (
  K (.int .i64 n18) w17) (
  J19 w17))) /\ (
  ∀ w20 : World, J19 w20 -> ∀ _ _ _ _ _ _ _ _ : Value,
  Calls Tryz.prog aU ⟨[(.pointer p15), (.int .i64 epoch4), (.int .i64 at5)]⟩ w20 fun e29 w30 =>
  ∃ s31 : Slc, ∃ n32, e29 = .returned (.tuple ⟨[s31.v, (.int .i64 n32)]⟩) /\
  BIf (decide (n32 = 0)) (
  ∃ t33 : List UInt8, au w30 s31 t33 /\
  ∃ t34 : List UInt8, au w30 b6 t34 /\
  BIf (!decide (t33 = t34)) (
  K (.int .i64 17) w30) (
  K (.int .i64 n32) w30)) (
  K (.int .i64 n32) w30)))
theorem lh (us1 : Slc) (copies2 : Slc) (k3 : Int) (epoch4 : Int) (at5 : Int) (b6 : Slc) {w : World} {R : Ending -> World -> Prop} (h : ij us1 copies2 k3 epoch4 at5 b6 w fun v w' => R (.returned v) w') : Calls Tryz.prog bx ⟨[us1.v, copies2.v, (.int .i64 k3), (.int .i64 epoch4), (.int .i64 at5), b6.v]⟩ w R :=
  ab (ann := (.two .none (.two .none (.two .none (.two .none (.cut [] [12, 35, 36, 37, 38, 39, 40, 41] .none .none)))))) ag mixed Tryz.func64 (Eq.mp (by kernel_rfl) h)
def gX (us1 : Slc) (copies2 : Slc) (k3 : Int) (epoch4 : Int) (at5 : Int) (b6 : Slc) (w : World) (K : Value -> World -> Prop) : Prop :=
  ∃ (I7 : (Int) -> World -> Prop) (mu8 : (Int) -> World -> Nat), I7 (k3) w /\ (
  ∀ k9 : Int, ∀ w10 : World, I7 k9 w10 -> ∀ _ _ _ _ _ _ _ _ _ _ _ _ _ _ _ _ _ _ : Value,
  BIf (decide (k9 < (copies2.l : Int))) (
  Calls Tryz.prog bx ⟨[us1.v, copies2.v, (.int .i64 k9), (.int .i64 epoch4), (.int .i64 at5), b6.v]⟩ w10 fun e29 w30 =>
  ∃ n31, e29 = .returned (.int .i64 n31) /\
  BIf (!decide (n31 = 0)) (
  K (.int .i64 n31) w30) (
  inR .i64 (k9 + 1) /\
  (I7 ((k9 + 1)) w30 /\ mu8 ((k9 + 1)) w30 < mu8 k9 w10))) (
  K (.int .i64 0) w10))
theorem ky (us1 : Slc) (copies2 : Slc) (k3 : Int) (epoch4 : Int) (at5 : Int) (b6 : Slc) {w : World} {R : Ending -> World -> Prop} (h : gX us1 copies2 k3 epoch4 at5 b6 w fun v w' => R (.returned v) w') : Calls Tryz.prog bb ⟨[us1.v, copies2.v, (.int .i64 k3), (.int .i64 epoch4), (.int .i64 at5), b6.v]⟩ w R :=
  ab (ann := (.two .none (.two (.one (.loop [(2, (Sh.int .i64))] (List.range' 12 18) .none)) .none))) ag mixed Tryz.func65 (Eq.mp (by kernel_rfl) h)
def jA (us1 : Slc) (epoch2 : Int) (copies3 : Slc) (at4 : Int) (b5 : Slc) (w : World) (K : Value -> World -> Prop) : Prop :=
  Calls Tryz.prog bb ⟨[us1.v, copies3.v, (.int .i64 1), (.int .i64 epoch2), (.int .i64 at4), b5.v]⟩ w fun e6 w7 =>
  ∃ n8, e6 = .returned (.int .i64 n8) /\
  K (.int .i64 n8) w7
theorem nt (us1 : Slc) (epoch2 : Int) (copies3 : Slc) (at4 : Int) (b5 : Slc) {w : World} {R : Ending -> World -> Prop} (h : jA us1 epoch2 copies3 at4 b5 w fun v w' => R (.returned v) w') : Calls Tryz.prog bg ⟨[us1.v, (.int .i64 epoch2), copies3.v, (.int .i64 at4), b5.v]⟩ w R :=
  ab (ann := .none) ag mixed Tryz.func35 (Eq.mp (by kernel_rfl) h)
def kQ (us1 : Slc) (p2 : Int) (p3 : Slc) (a4 : Int) (k5 : Int) (b6 : Slc) (w : World) (K : Value -> World -> Prop) : Prop :=
  aA w (.cells ⟨[(.int .i64 p2), p3.v]⟩ 34) fun r7 w8 =>
  ∃ n9 : Int, ∃ s10 : Slc, rowAt w8 ⟨r7, 0, none⟩ 0 [(.int .i64 n9), s10.v] /\
  Calls Tryz.prog bF ⟨[(.agg ⟨[(.int .i64 n9), s10.v]⟩), (.int .i64 a4)]⟩ w8 fun e11 w12 =>
  ∃ s13 : Slc, ∃ n14 : Int, ∃ n15, e11 = .returned (.tuple ⟨[s13.v, (.int .i64 n14), (.int .i64 n15)]⟩) /\
  BIf (!decide (n15 = 0)) (
  K (.int .i64 n15) w12) (
  BIf (decide (k5 < 0)) (
  K (.int .i64 1) w12) (
  BIf (decide ((s13.l : Int) <= k5)) (
  K (.int .i64 1) w12) (
  ∃ n16, w12.cell? ⟨r7, 0, none⟩ = some (.int .i64 n16) /\
  Calls Tryz.prog bx ⟨[us1.v, s13.v, (.int .i64 k5), (.int .i64 n16), (.int .i64 n14), b6.v]⟩ w12 fun e17 w18 =>
  ∃ n19, e17 = .returned (.int .i64 n19) /\
  K (.int .i64 n19) w18)))
theorem oV (us1 : Slc) (p2 : Int) (p3 : Slc) (a4 : Int) (k5 : Int) (b6 : Slc) {w : World} {R : Ending -> World -> Prop} (h : kQ us1 p2 p3 a4 k5 b6 w fun v w' => R (.returned v) w') : Calls Tryz.prog bn ⟨[us1.v, (.agg ⟨[(.int .i64 p2), p3.v]⟩), (.int .i64 a4), (.int .i64 k5), b6.v]⟩ w R :=
  ab (ann := .none) ag mixed Tryz.func34 (Eq.mp (by kernel_rfl) h)
def j6 (us1 : Slc) (p2 : Int) (p3 : Slc) (a4 : Int) (b5 : Slc) (w : World) (K : Value -> World -> Prop) : Prop :=
  aA w (.cells ⟨[(.int .i64 p2), p3.v]⟩ 34) fun r6 w7 =>
  ∃ n8 : Int, ∃ s9 : Slc, rowAt w7 ⟨r6, 0, none⟩ 0 [(.int .i64 n8), s9.v] /\
  Calls Tryz.prog bF ⟨[(.agg ⟨[(.int .i64 n8), s9.v]⟩), (.int .i64 a4)]⟩ w7 fun e10 w11 =>
  ∃ s12 : Slc, ∃ n13 : Int, ∃ n14, e10 = .returned (.tuple ⟨[s12.v, (.int .i64 n13), (.int .i64 n14)]⟩) /\
  BIf (!decide (n14 = 0)) (
  K (.int .i64 n14) w11) (
  ∃ n15, w11.cell? ⟨r6, 0, none⟩ = some (.int .i64 n15) /\
  Calls Tryz.prog bb ⟨[us1.v, s12.v, (.int .i64 0), (.int .i64 n15), (.int .i64 n13), b5.v]⟩ w11 fun e16 w17 =>
  ∃ n18, e16 = .returned (.int .i64 n18) /\
  K (.int .i64 n18) w17)
theorem og (us1 : Slc) (p2 : Int) (p3 : Slc) (a4 : Int) (b5 : Slc) {w : World} {R : Ending -> World -> Prop} (h : j6 us1 p2 p3 a4 b5 w fun v w' => R (.returned v) w') : Calls Tryz.prog bh ⟨[us1.v, (.agg ⟨[(.int .i64 p2), p3.v]⟩), (.int .i64 a4), b5.v]⟩ w R :=
  ab (ann := .none) ag mixed Tryz.func36 (Eq.mp (by kernel_rfl) h)
def kR (us1 : Slc) (p2 : Int) (p3 : Slc) (a4 : Int) (w : World) (K : Value -> World -> Prop) : Prop :=
  aA w (.cells ⟨[(.int .i64 p2), p3.v]⟩ 34) fun r5 w6 =>
  ∃ n7 : Int, ∃ s8 : Slc, rowAt w6 ⟨r5, 0, none⟩ 0 [(.int .i64 n7), s8.v] /\
  Calls Tryz.prog bF ⟨[(.agg ⟨[(.int .i64 n7), s8.v]⟩), (.int .i64 a4)]⟩ w6 fun e9 w10 =>
  ∃ s11 : Slc, ∃ n12 : Int, ∃ n13, e9 = .returned (.tuple ⟨[s11.v, (.int .i64 n12), (.int .i64 n13)]⟩) /\
  BIf (!decide (n13 = 0)) (
  K (.tuple ⟨[(Slc.v ⟨none, 0, 0⟩), (.int .i64 n13)]⟩) w10) (
  inR .i64 ((s11.l : Int) - (1 : Int)) /\
  needSome s11.p fun a14 =>
  0 <= ((s11.l : Int) - (1 : Int)) /\ ((s11.l : Int) - (1 : Int)) < (s11.l : Int) /\
  ∃ n15, w10.cell? (Addr.add a14 ((Int.toNat ((s11.l : Int) - (1 : Int))) * 1)) = some (.int .i64 n15) /\
  Calls Tryz.prog aY ⟨[us1.v, (.int .i64 n15)]⟩ w10 fun e16 w17 =>
  ∃ b18, e16 = .returned (.bool b18) /\
  BIf (!b18) (
  K (.tuple ⟨[(Slc.v ⟨none, 0, 0⟩), (.int .i64 12)]⟩) w17) (
  inR .i64 ((s11.l : Int) - (1 : Int)) /\
  needSome s11.p fun a19 =>
  0 <= ((s11.l : Int) - (1 : Int)) /\ ((s11.l : Int) - (1 : Int)) < (s11.l : Int) /\
  ∃ n20, w17.drew.cell? (Addr.add a19 ((Int.toNat ((s11.l : Int) - (1 : Int))) * 1)) = some (.int .i64 n20) /\
  needSome us1.p fun a21 =>
  0 <= n20 /\ n20 < (us1.l : Int) /\
  ∃ p22 : Option Addr, w17.drew.cell? (Addr.add a21 ((Int.toNat n20) * 1)) = some (.pointer p22) /\
  ∃ n23, w17.drew.cell? ⟨r5, 0, none⟩ = some (.int .i64 n23) /\
  Calls Tryz.prog aU ⟨[(.pointer p22), (.int .i64 n23), (.int .i64 n12)]⟩ w17.drew fun e24 w25 =>
  ∃ s26 : Slc, ∃ n27, e24 = .returned (.tuple ⟨[s26.v, (.int .i64 n27)]⟩) /\
  ∃ J28 : World -> Prop,
  (
  BIf (!decide (n27 = 10)) (
  K (.tuple ⟨[s26.v, (.int .i64 n27)]⟩) w25) (
  BIf (decide ((s11.l : Int) = (1 : Int))) (
  K (.tuple ⟨[s26.v, (.int .i64 n27)]⟩) w25) (
  J28 w25))) /\ (
  ∀ w29 : World, J28 w29 -> ∀ _ _ _ _ _ _ _ _ _ _ : Value,
  needSome s11.p fun a40 =>
  0 <= (0 : Int) /\ (0 : Int) < (s11.l : Int) /\
  ∃ n41, w29.cell? a40 = some (.int .i64 n41) /\
  Calls Tryz.prog aY ⟨[us1.v, (.int .i64 n41)]⟩ w29 fun e42 w43 =>
  ∃ b44, e42 = .returned (.bool b44) /\
  BIf (!b44) (
  K (.tuple ⟨[(Slc.v ⟨none, 0, 0⟩), (.int .i64 12)]⟩) w43) (
  needSome s11.p fun a45 =>
  0 <= (0 : Int) /\ (0 : Int) < (s11.l : Int) /\
  ∃ n46, w43.drew.cell? a45 = some (.int .i64 n46) /\
  needSome us1.p fun a47 =>
  0 <= n46 /\ n46 < (us1.l : Int) /\
  ∃ p48 : Option Addr, w43.drew.cell? (Addr.add a47 ((Int.toNat n46) * 1)) = some (.pointer p48) /\
  ∃ n49, w43.drew.cell? ⟨r5, 0, none⟩ = some (.int .i64 n49) /\
  Calls Tryz.prog aU ⟨[(.pointer p48), (.int .i64 n49), (.int .i64 n12)]⟩ w43.drew fun e50 w51 =>
  ∃ s52 : Slc, ∃ n53, e50 = .returned (.tuple ⟨[s52.v, (.int .i64 n53)]⟩) /\
  BIf (!decide (n53 = 0)) (
  K (.tuple ⟨[(Slc.v ⟨none, 0, 0⟩), (.int .i64 n53)]⟩) w51) (
  ∃ n54, w51.cell? ⟨r5, 0, none⟩ = some (.int .i64 n54) /\
  Calls Tryz.prog bb ⟨[us1.v, s11.v, (.int .i64 1), (.int .i64 n54), (.int .i64 n12), s52.v]⟩ w51 fun e55 w56 =>
  ∃ n57, e55 = .returned (.int .i64 n57) /\
  BIf (!decide (n57 = 0)) (
  K (.tuple ⟨[(Slc.v ⟨none, 0, 0⟩), (.int .i64 n57)]⟩) w56) (
  K (.tuple ⟨[s52.v, (.int .i64 0)]⟩) w56))))))
theorem oW (us1 : Slc) (p2 : Int) (p3 : Slc) (a4 : Int) {w : World} {R : Ending -> World -> Prop} (h : kR us1 p2 p3 a4 w fun v w' => R (.returned v) w') : Calls Tryz.prog fz ⟨[us1.v, (.agg ⟨[(.int .i64 p2), p3.v]⟩), (.int .i64 a4)]⟩ w R :=
  ab (ann := (.two .none (.two .none (.two .none (.two .none (.two .none (.two .none (.cut [] ([6, 7] ++ List.range' 49 8) .none .none)))))))) ag mixed Tryz.func37 (Eq.mp (by kernel_rfl) h)
def kS (us1 : Slc) (p2 : Int) (p3 : Slc) (a4 : Int) (w : World) (K : Value -> World -> Prop) : Prop :=
  aA w (.cells ⟨[(.int .i64 p2), p3.v]⟩ 34) fun r5 w6 =>
  ∃ n7 : Int, ∃ s8 : Slc, rowAt w6 ⟨r5, 0, none⟩ 0 [(.int .i64 n7), s8.v] /\
  Calls Tryz.prog bF ⟨[(.agg ⟨[(.int .i64 n7), s8.v]⟩), (.int .i64 a4)]⟩ w6 fun e9 w10 =>
  ∃ s11 : Slc, ∃ n12 : Int, ∃ n13, e9 = .returned (.tuple ⟨[s11.v, (.int .i64 n12), (.int .i64 n13)]⟩) /\
  BIf (!decide (n13 = 0)) (
  K (.tuple ⟨[(Slc.v ⟨none, 0, 0⟩), (.int .i64 n13)]⟩) w10) (
  aA w10 (.cells ⟨[(.int .u8 0)]⟩ 5) fun r14 w15 =>
  ∃ n16, w15.cell? ⟨r5, 0, none⟩ = some (.int .i64 n16) /\
  Calls Tryz.prog bx ⟨[us1.v, s11.v, (.int .i64 0), (.int .i64 n16), (.int .i64 n12), (Slc.v (⟨(some ⟨r14, 0, none⟩), 1, 1⟩ : Slc))]⟩ w15 fun e17 w18 =>
  ∃ n19, e17 = .returned (.int .i64 n19) /\
  ∃ J20 : (Int) -> (Slc) -> World -> Prop,
  (
  BIf (decide (n19 = 9)) (
  needSome s11.p fun a21 =>
  0 <= (0 : Int) /\ (0 : Int) < (s11.l : Int) /\
  ∃ n22, w18.drew.cell? a21 = some (.int .i64 n22) /\
  needSome us1.p fun a23 =>
  0 <= n22 /\ n22 < (us1.l : Int) /\
  ∃ p24 : Option Addr, w18.drew.cell? (Addr.add a23 ((Int.toNat n22) * 1)) = some (.pointer p24) /\
  ∃ n25, w18.drew.cell? ⟨r5, 0, none⟩ = some (.int .i64 n25) /\
  Calls Tryz.prog aU ⟨[(.pointer p24), (.int .i64 n25), (.int .i64 n12)]⟩ w18.drew fun e26 w27 =>
  ∃ s28 : Slc, ∃ n29, e26 = .returned (.tuple ⟨[s28.v, (.int .i64 n29)]⟩) /\
  J20 (n29) (s28) w27) (
  J20 (n19) ((⟨(some ⟨r14, 0, none⟩), 1, 1⟩ : Slc)) w18)) /\ (
  ∀ e30 : Int, ∀ b31 : Slc, ∀ w32 : World, J20 e30 b31 w32 -> ∀ _ _ _ _ _ _ _ _ _ _ _ _ _ _ _ : Value,
  BIf (decide (e30 = 0)) (
  ∃ n48, w32.cell? ⟨r5, 0, none⟩ = some (.int .i64 n48) /\
  Calls Tryz.prog bb ⟨[us1.v, s11.v, (.int .i64 1), (.int .i64 n48), (.int .i64 n12), b31.v]⟩ w32 fun e49 w50 =>
  ∃ n51, e49 = .returned (.int .i64 n51) /\
  BIf (!decide (n51 = 0)) (
  K (.tuple ⟨[(Slc.v ⟨none, 0, 0⟩), (.int .i64 n51)]⟩) w50) (
  K (.tuple ⟨[b31.v, (.int .i64 0)]⟩) w50)) (
  BIf (!decide (e30 = 0)) (
  K (.tuple ⟨[(Slc.v ⟨none, 0, 0⟩), (.int .i64 e30)]⟩) w32) (
  K (.tuple ⟨[b31.v, (.int .i64 0)]⟩) w32))))
theorem oX (us1 : Slc) (p2 : Int) (p3 : Slc) (a4 : Int) {w : World} {R : Ending -> World -> Prop} (h : kS us1 p2 p3 a4 w fun v w' => R (.returned v) w') : Calls Tryz.prog fC ⟨[us1.v, (.agg ⟨[(.int .i64 p2), p3.v]⟩), (.int .i64 a4)]⟩ w R :=
  ab (ann := (.two .none (.two .none (.two .none (.two .none (.two .none (.cut [(10, (Sh.int .i64)), (11, Sh.slc)] (List.range' 30 15) .none .none))))))) ag mixed Tryz.func38 (Eq.mp (by kernel_rfl) h)
def kT (us1 : Slc) (p2 : Int) (p3 : Slc) (to4 : Int) (w : World) (K : Value -> World -> Prop) : Prop :=
  aA w (.cells ⟨[(.int .i64 p2), p3.v]⟩ 34) fun r5 w6 =>
  ∃ n7 : Int, ∃ s8 : Slc, rowAt w6 ⟨r5, 0, none⟩ 0 [(.int .i64 n7), s8.v] /\
  Calls Tryz.prog bX ⟨[(.agg ⟨[(.int .i64 n7), s8.v]⟩)]⟩ w6 fun e9 w10 =>
  ∃ b11, e9 = .returned (.bool b11) /\
  BIf (!b11) (
  K (.int .i64 4) w10) (
  ∃ J12 : World -> Prop,
  (
  BIf (decide (to4 < 0)) (
  K (.int .i64 1) w10) (
  BIf (decide (4096 < to4)) (
  K (.int .i64 1) w10) (
  J12 w10))) /\ (
  ∀ w13 : World, J12 w13 -> ∀ _ _ _ _ _ _ _ : Value,
  ∃ s21, w13.cell? ⟨r5, 1, none⟩ = some (Slc.v s21) /\
  ∃ (I22 : (Int) -> World -> Prop) (mu23 : (Int) -> World -> Nat), I22 ((0 : Int)) w13 /\ (
  ∀ i24 : Int, ∀ w25 : World, I22 i24 w25 -> ∀ _ _ _ _ _ _ _ _ _ _ _ _ _ _ _ _ _ _ _ _ _ _ _ _ _ _ _ _ _ _ _ _ _ _ _ _ _ _ _ _ _ _ _ _ : Value,
  BIf (decide (i24 < (s21.l : Int))) (
  needSome s21.p fun a70 =>
  0 <= i24 /\ i24 < (s21.l : Int) /\
  ∃ s71, w25.cell? (Addr.add a70 ((Int.toNat i24) * 1)) = some (Slc.v s71) /\
  ∃ (I72 : (Int) -> World -> Prop) (mu73 : (Int) -> World -> Nat), I72 ((0 : Int)) w25 /\ (
  ∀ own74 : Int, ∀ w75 : World, I72 own74 w75 -> ∀ _ _ _ _ _ _ _ _ _ _ _ : Value,
  ∃ s87, w75.cell? ⟨r5, 1, none⟩ = some (Slc.v s87) /\
  inR .i64 (own74 * (s87.l : Int)) /\
  inR .i64 ((own74 * (s87.l : Int)) + i24) /\
  BIf (decide (((own74 * (s87.l : Int)) + i24) < to4)) (
  inR .i64 (own74 + 1) /\
  (I72 ((own74 + 1)) w75 /\ mu73 ((own74 + 1)) w75 < mu73 own74 w75)) (
  ∃ (I88 : (Int) -> World -> Prop) (mu89 : (Int) -> World -> Nat), I88 ((0 : Int)) w75 /\ (
  ∀ i90 : Int, ∀ w91 : World, I88 i90 w91 -> ∀ _ _ _ _ _ _ _ _ _ _ _ _ _ _ _ _ _ _ _ _ _ _ : Value,
  BIf (decide (i90 < (s71.l : Int))) (
  needSome s71.p fun a114 =>
  0 <= i90 /\ i90 < (s71.l : Int) /\
  ∃ n115, w91.cell? (Addr.add a114 ((Int.toNat i90) * 1)) = some (.int .i64 n115) /\
  Calls Tryz.prog aY ⟨[us1.v, (.int .i64 n115)]⟩ w91 fun e116 w117 =>
  ∃ b118, e116 = .returned (.bool b118) /\
  BIf (!b118) (
  K (.int .i64 12) w117) (
  needSome us1.p fun a119 =>
  0 <= n115 /\ n115 < (us1.l : Int) /\
  ∃ p120 : Option Addr, w117.drew.cell? (Addr.add a119 ((Int.toNat n115) * 1)) = some (.pointer p120) /\
  ∃ n121, w117.drew.cell? ⟨r5, 0, none⟩ = some (.int .i64 n121) /\
  Calls Tryz.prog dG ⟨[(.pointer p120), (.int .i64 n121), (.int .i64 own74)]⟩ w117.drew fun e122 w123 =>
  ∃ n124, e122 = .returned (.int .i64 n124) /\
  BIf (!decide (n124 = 0)) (
  K (.int .i64 n124) w123) (
  inR .i64 (i90 + 1) /\
  (I88 ((i90 + 1)) w123 /\ mu89 ((i90 + 1)) w123 < mu89 i90 w91)))) (
  inR .i64 (i24 + 1) /\
  (I22 ((i24 + 1)) w91 /\ mu23 ((i24 + 1)) w91 < mu23 i24 w25)))))) (
  K (.int .i64 0) w25))))
theorem oY (us1 : Slc) (p2 : Int) (p3 : Slc) (to4 : Int) {w : World} {R : Ending -> World -> Prop} (h : kT us1 p2 p3 to4 w fun v w' => R (.returned v) w') : Calls Tryz.prog fE ⟨[us1.v, (.agg ⟨[(.int .i64 p2), p3.v]⟩), (.int .i64 to4)]⟩ w R :=
  ab (ann := (.two .none (.two .none (.cut [] [6, 16, 17, 18, 19, 20, 21] .none (.two (.two .none (.one (.loop [(25, (Sh.int .i64))] ([6, 7, 8, 9, 11, 12] ++ List.range' 26 38) (.two .none (.two .none (.two (.one (.two .none (.two .none (.two (.one (.loop [(9, (Sh.int .i64))] (List.range' 30 11) .none)) (.two .none (.one (.loop [(43, (Sh.int .i64))] ([6, 11, 12] ++ List.range' 44 19) .none))))))) .none)))))) .none))))) ag mixed Tryz.func39 (Eq.mp (by kernel_rfl) h)
def kU (us1 : Slc) (p2 : Int) (p3 : Slc) (w : World) (K : Value -> World -> Prop) : Prop :=
  aA w (.cells ⟨[(.int .i64 p2), p3.v]⟩ 34) fun r4 w5 =>
  ∃ n6 : Int, ∃ s7 : Slc, rowAt w5 ⟨r4, 0, none⟩ 0 [(.int .i64 n6), s7.v] /\
  Calls Tryz.prog bX ⟨[(.agg ⟨[(.int .i64 n6), s7.v]⟩)]⟩ w5 fun e8 w9 =>
  ∃ b10, e8 = .returned (.bool b10) /\
  BIf (!b10) (
  K (.tuple ⟨[(.int .i64 0), (.int .i64 4)]⟩) w9) (
  aA w9 (.cells ⟨[]⟩ 3) fun r11 w12 =>
  ∃ s13, w12.cell? ⟨r4, 1, none⟩ = some (Slc.v s13) /\
  ∃ (I14 : (Slc) -> (Int) -> World -> Prop) (mu15 : (Slc) -> (Int) -> World -> Nat), I14 ((⟨(some ⟨r11, 0, none⟩), 0, 0⟩ : Slc)) ((0 : Int)) w12 /\ (
  ∀ tails16 : Slc, ∀ i17 : Int, ∀ w18 : World, I14 tails16 i17 w18 -> ∀ _ _ _ _ _ _ _ _ _ _ _ _ _ _ _ _ _ _ _ _ _ _ _ : Value,
  BIf (decide (i17 < (s13.l : Int))) (
  needSome s13.p fun a42 =>
  0 <= i17 /\ i17 < (s13.l : Int) /\
  ∃ s43, w18.cell? (Addr.add a42 ((Int.toNat i17) * 1)) = some (Slc.v s43) /\
  needSome s43.p fun a44 =>
  0 <= (0 : Int) /\ (0 : Int) < (s43.l : Int) /\
  ∃ n45, w18.cell? a44 = some (.int .i64 n45) /\
  Calls Tryz.prog aY ⟨[us1.v, (.int .i64 n45)]⟩ w18 fun e46 w47 =>
  ∃ b48, e46 = .returned (.bool b48) /\
  BIf (!b48) (
  K (.tuple ⟨[(.int .i64 0), (.int .i64 12)]⟩) w47) (
  needSome s43.p fun a49 =>
  0 <= (0 : Int) /\ (0 : Int) < (s43.l : Int) /\
  ∃ n50, w47.cell? a49 = some (.int .i64 n50) /\
  needSome us1.p fun a51 =>
  0 <= n50 /\ n50 < (us1.l : Int) /\
  ∃ p52 : Option Addr, w47.cell? (Addr.add a51 ((Int.toNat n50) * 1)) = some (.pointer p52) /\
  Calls Tryz.prog bz ⟨[(.pointer p52)]⟩ w47 fun e53 w54 =>
  ∃ n55, e53 = .returned (.int .i64 n55) /\
  aA w54 (.cells ⟨[(.int .i64 n55)]⟩ 3) fun r56 w57 =>
  ak 1 3 [(.int .i64 0)] w57 tails16 (.slc (⟨(some ⟨r56, 0, none⟩), 1, 1⟩ : Slc)) fun s58 w59 =>
  inR .i64 (i17 + 1) /\
  (I14 (s58) ((i17 + 1)) w59 /\ mu15 (s58) ((i17 + 1)) w59 < mu15 tails16 i17 w18))) (
  ∃ n60 : Int, ∃ s61 : Slc, rowAt w18 ⟨r4, 0, none⟩ 0 [(.int .i64 n60), s61.v] /\
  Calls Tryz.prog fG ⟨[(.agg ⟨[(.int .i64 n60), s61.v]⟩), tails16.v]⟩ w18 fun e62 w63 =>
  ∃ n64, e62 = .returned (.int .i64 n64) /\
  K (.tuple ⟨[(.int .i64 n64), (.int .i64 0)]⟩) w63)))
theorem oZ (us1 : Slc) (p2 : Int) (p3 : Slc) {w : World} {R : Ending -> World -> Prop} (h : kU us1 p2 p3 w fun v w' => R (.returned v) w') : Calls Tryz.prog fF ⟨[us1.v, (.agg ⟨[(.int .i64 p2), p3.v]⟩)]⟩ w R :=
  ab (ann := (.two .none (.two .none (.two .none (.two (.two .none (.one (.loop [(6, Sh.slc), (16, (Sh.int .i64))] ([4, 5, 8] ++ List.range' 17 20) .none))) .none))))) ag mixed Tryz.func41 (Eq.mp (by kernel_rfl) h)
end Go.D

