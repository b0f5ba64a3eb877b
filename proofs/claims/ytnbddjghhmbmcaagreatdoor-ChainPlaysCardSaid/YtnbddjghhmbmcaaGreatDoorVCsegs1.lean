/-
  WHAT IS PROVED: verification conditions of functions of this program, each with its soundness. No further conditions.
-/
import Derived.Test.YtnbddjghhmbmcaaGreatDoorBase
set_option linter.unusedSimpArgs false
set_option maxRecDepth 100000
set_option linter.unusedVariables false
namespace Go.D
open Go Go.Proofs
def tm (n1 : Int) (w : World) (K : Value -> World -> Prop) : Prop :=
  inR .i64 (n1 + 64) /\
  inR .i64 ((n1 + 64) - (1 : Int)) /\
  0 <= ((n1 + 64) - (1 : Int)) /\ 0 < (64 : Int) /\ inR .i64 ((n1 + 64) - (1 : Int)) /\
  K (.int .i64 (((n1 + 64) - (1 : Int)) / (64 : Int))) w
theorem vP (n1 : Int) {w : World} {R : Ending -> World -> Prop} (h : tm n1 w fun v w' => R (.returned v) w') : Calls Tryz.prog iu ⟨[(.int .i64 n1)]⟩ w R :=
  ab (ann := .none) ag mixed Tryz.func126 (Eq.mp (by kernel_rfl) h)
def zO (n1 : Int) (m2 : Int) (w : World) (K : Value -> World -> Prop) : Prop :=
  0 <= (64 : Int) /\ (64 : Int) <= (64 : Int) /\ (64 : Int) <= 2 ^ 30 /\
  aA w (.cells ⟨bI 64 [(.int .u8 0)]⟩ 5) fun r3 w4 =>
  ∃ (I5 : (Int) -> World -> Prop) (mu6 : (Int) -> World -> Nat), I5 ((0 : Int)) w4 /\ (
  ∀ i7 : Int, ∀ w8 : World, I5 i7 w8 -> ∀ _ _ _ _ _ _ _ _ _ _ _ _ : Value,
  BIf (decide (i7 < 8)) (
  inR .i64 ((8 : Int) * i7) /\
  0 <= ((8 : Int) * i7) /\ 0 <= n1 /\
  0 <= i7 /\ i7 < ((64 : Nat) : Int) /\
  aw w8 (Addr.add ⟨r3, 0, none⟩ ((Int.toNat i7) * 1)) 1 /\ ∀ w21, w21 = w8.setCell (Addr.add ⟨r3, 0, none⟩ ((Int.toNat i7) * 1)) (.int .u8 (IntKind.wrap .u8 (n1 / ((2 ^ min (Int.toNat ((8 : Int) * i7)) 64 : Nat) : Int)))) ->
  inR .i64 (i7 + 1) /\
  (I5 ((i7 + 1)) w21 /\ mu6 ((i7 + 1)) w21 < mu6 i7 w8)) (
  0 <= (63 : Int) /\ (63 : Int) < ((64 : Nat) : Int) /\
  aw w8 ⟨r3, 63, none⟩ 1 /\ ∀ w22, w22 = w8.setCell ⟨r3, 63, none⟩ (.int .u8 m2) ->
  K (Slc.v (⟨(some ⟨r3, 0, none⟩), 64, 64⟩ : Slc)) w22))
theorem AB (n1 : Int) (m2 : Int) {w : World} {R : Ending -> World -> Prop} (h : zO n1 m2 w fun v w' => R (.returned v) w') : Calls Tryz.prog jf ⟨[(.int .i64 n1), (.int .u8 m2)]⟩ w R :=
  ab (ann := (.two .none (.two .none (.two (.two .none (.one (.loop [(8, (Sh.int .i64))] ([6] ++ List.range' 9 11) .none))) .none)))) ag mixed Tryz.func132 (Eq.mp (by kernel_rfl) h)
def vl (b1 : Slc) (many2 : Int) (w : World) (K : Value -> World -> Prop) : Prop :=
  ∃ (I3 : (Int) -> (Int) -> World -> Prop) (mu4 : (Int) -> (Int) -> World -> Nat), I3 ((0 : Int)) ((0 : Int)) w /\ (
  ∀ n5 : Int, ∀ i6 : Int, ∀ w7 : World, I3 n5 i6 w7 -> ∀ _ _ _ _ _ _ _ _ _ _ _ _ _ _ : Value,
  BIf (decide (i6 < many2)) (
  needSome b1.p fun a22 =>
  0 <= i6 /\ i6 < (b1.l : Int) /\
  ∃ n23, w7.cell? (Addr.add a22 ((Int.toNat i6) * 1)) = some (.int .u8 n23) /\
  inR .i64 n23 /\
  inR .i64 ((8 : Int) * i6) /\
  0 <= ((8 : Int) * i6) /\
  inR .i64 (n23 * ((2 ^ min (Int.toNat ((8 : Int) * i6)) 64 : Nat) : Int)) /\
  0 <= n5 /\ 0 <= (n23 * ((2 ^ min (Int.toNat ((8 : Int) * i6)) 64 : Nat) : Int)) /\ inR .i64 n5 /\ inR .i64 (n23 * ((2 ^ min (Int.toNat ((8 : Int) * i6)) 64 : Nat) : Int)) /\
  inR .i64 (i6 + 1) /\
  (I3 ((bitsI .or n5 (n23 * ((2 ^ min (Int.toNat ((8 : Int) * i6)) 64 : Nat) : Int)))) ((i6 + 1)) w7 /\ mu4 ((bitsI .or n5 (n23 * ((2 ^ min (Int.toNat ((8 : Int) * i6)) 64 : Nat) : Int)))) ((i6 + 1)) w7 < mu4 n5 i6 w7)) (
  K (.int .i64 n5) w7))
theorem xt (b1 : Slc) (many2 : Int) {w : World} {R : Ending -> World -> Prop} (h : vl b1 many2 w fun v w' => R (.returned v) w') : Calls Tryz.prog jb ⟨[b1.v, (.int .i64 many2)]⟩ w R :=
  ab (ann := (.two .none (.two .none (.two (.two .none (.one (.loop [(5, (Sh.int .i64)), (8, (Sh.int .i64))] ([6] ++ List.range' 9 13) .none))) .none)))) ag mixed Tryz.func105 (Eq.mp (by kernel_rfl) h)
def mA (s1 : Option Addr) (place2 : Int) (i3 : Int) (w : World) (K : Value -> World -> Prop) : Prop :=
  needSome s1 fun a4 =>
  ∃ p5 : Option Addr, w.cell? a4 = some (.pointer p5) /\
  inR .i64 (place2 * 64) /\
  inR .i64 ((place2 * 64) + i3) /\
  Calls Tryz.prog g8 ⟨[(.pointer p5), (.int .i64 ((place2 * 64) + i3))]⟩ w fun e6 w7 =>
  ∃ s8 : Slc, ∃ e9, e6 = .returned (.tuple ⟨[s8.v, e9]⟩) /\
  isI e9 /\
  BIf (!isNilI e9) (
  0 <= (64 : Int) /\ (64 : Int) <= (64 : Int) /\ (64 : Int) <= 2 ^ 30 /\
  aA w7 (.cells ⟨bI 64 [(.int .u8 0)]⟩ 5) fun r10 w11 =>
  K (Slc.v (⟨(some ⟨r10, 0, none⟩), 64, 64⟩ : Slc)) w11) (
  K s8.v w7)
theorem qo (s1 : Option Addr) (place2 : Int) (i3 : Int) {w : World} {R : Ending -> World -> Prop} (h : mA s1 place2 i3 w fun v w' => R (.returned v) w') : Calls Tryz.prog bZ ⟨[(.pointer s1), (.int .i64 place2), (.int .i64 i3)]⟩ w R :=
  ab (ann := .none) ag mixed Tryz.func103 (Eq.mp (by kernel_rfl) h)
def jh (s1 : Option Addr) (place2 : Int) (at3 : Int) (w : World) (K : Value -> World -> Prop) : Prop :=
  BIf (decide (64 <= at3)) (
  K (.tuple ⟨[(Slc.v ⟨none, 0, 0⟩), (.int .i64 0), (.bool false)]⟩) w) (
  Calls Tryz.prog bZ ⟨[(.pointer s1), (.int .i64 place2), (.int .i64 at3)]⟩ w fun e4 w5 =>
  ∃ s6, e4 = .returned (Slc.v s6) /\
  Calls Tryz.prog jb ⟨[s6.v, (.int .i64 2)]⟩ w5 fun e7 w8 =>
  ∃ n9, e7 = .returned (.int .i64 n9) /\
  inR .i64 (at3 + 1) /\
  Calls Tryz.prog iu ⟨[(.int .i64 n9)]⟩ w8 fun e10 w11 =>
  ∃ n12, e10 = .returned (.int .i64 n12) /\
  inR .i64 ((at3 + 1) + n12) /\
  ∃ J13 : World -> Prop,
  (
  needSome s6.p fun a14 =>
  0 <= (63 : Int) /\ (63 : Int) < (s6.l : Int) /\
  ∃ n15, w11.cell? (a14.add 63) = some (.int .u8 n15) /\
  BIf (!decide (n15 = 1)) (
  K (.tuple ⟨[(Slc.v ⟨none, 0, 0⟩), (.int .i64 0), (.bool false)]⟩) w11) (
  BIf (decide (n9 = 0)) (
  K (.tuple ⟨[(Slc.v ⟨none, 0, 0⟩), (.int .i64 0), (.bool false)]⟩) w11) (
  BIf (decide ((64 : Int) < ((at3 + 1) + n12))) (
  K (.tuple ⟨[(Slc.v ⟨none, 0, 0⟩), (.int .i64 0), (.bool false)]⟩) w11) (
  J13 w11)))) /\ (
  ∀ w16 : World, J13 w16 -> ∀ _ _ _ _ _ _ _ _ _ _ _ _ _ _ _ : Value,
  inR .i64 (at3 + 1) /\
  ∃ (I32 : (Slc) -> (Int) -> World -> Prop) (mu33 : (Slc) -> (Int) -> World -> Nat), I32 (⟨none, 0, 0⟩) ((at3 + 1)) w16 /\ (
  ∀ b34 : Slc, ∀ i35 : Int, ∀ w36 : World, I32 b34 i35 w36 -> ∀ _ _ _ _ _ _ _ _ _ _ _ : Value,
  BIf (decide (i35 < ((at3 + 1) + n12))) (
  Calls Tryz.prog bZ ⟨[(.pointer s1), (.int .i64 place2), (.int .i64 i35)]⟩ w36 fun e48 w49 =>
  ∃ s50, e48 = .returned (Slc.v s50) /\
  ak 1 5 [(.int .u8 0)] w49 b34 (.slc s50) fun s51 w52 =>
  inR .i64 (i35 + 1) /\
  (I32 (s51) ((i35 + 1)) w52 /\ mu33 (s51) ((i35 + 1)) w52 < mu33 b34 i35 w36)) (
  0 <= (0 : Int) /\ (0 : Int) <= n9 /\ n9 <= (b34.c : Int) /\ (b34.c : Int) <= (b34.c : Int) /\
  K (.tuple ⟨[(Slc.v (Slc.sub b34 1 0 (Int.toNat n9) b34.c)), (.int .i64 ((at3 + 1) + n12)), (.bool true)]⟩) w36))))
theorem jY (s1 : Option Addr) (place2 : Int) (at3 : Int) {w : World} {R : Ending -> World -> Prop} (h : jh s1 place2 at3 w fun v w' => R (.returned v) w') : Calls Tryz.prog b9 ⟨[(.pointer s1), (.int .i64 place2), (.int .i64 at3)]⟩ w R :=
  ab (ann := (.two .none (.two .none (.two .none (.two .none (.two .none (.cut [] ([6, 7, 8] ++ List.range' 27 12) .none (.two .none (.two (.two .none (.one (.loop [(12, Sh.slc), (13, (Sh.int .i64))] (List.range' 41 11) .none))) .none))))))))) ag mixed Tryz.func138 (Eq.mp (by kernel_rfl) h)
def py (s1 : Option Addr) (place2 : Int) (number3 : Int) (w : World) (K : Value -> World -> Prop) : Prop :=
  aA w (.cells ⟨[(.int .i64 place2), (.int .i64 number3), (Slc.v ⟨none, 0, 0⟩), (.int .i64 1)]⟩ 182) fun r4 w5 =>
  Calls Tryz.prog b9 ⟨[(.pointer s1), (.int .i64 place2), (.int .i64 1)]⟩ w5 fun e6 w7 =>
  ∃ s8 : Slc, ∃ n9 : Int, ∃ b10, e6 = .returned (.tuple ⟨[s8.v, (.int .i64 n9), (.bool b10)]⟩) /\
  ∃ (I11 : (Slc) -> (Int) -> (Bool) -> World -> Prop) (mu12 : (Slc) -> (Int) -> (Bool) -> World -> Nat), I11 (s8) (n9) (b10) w7 /\ (
  ∀ b13 : Slc, ∀ next14 : Int, ∀ is15 : Bool, ∀ w16 : World, I11 b13 next14 is15 w16 -> ∀ _ _ _ _ _ _ _ _ _ _ _ _ _ _ _ _ _ _ _ _ _ _ _ : Value,
  BIf is15 (
  ∃ s40, w16.cell? ⟨r4, 2, none⟩ = some (Slc.v s40) /\
  aA w16 (.cells ⟨[b13.v]⟩ 45) fun r41 w42 =>
  ak 1 45 [(Slc.v ⟨none, 0, 0⟩)] w42 s40 (.slc (⟨(some ⟨r41, 0, none⟩), 1, 1⟩ : Slc)) fun s43 w44 =>
  aw w44 ⟨r4, 2, none⟩ 1 /\ ∀ w45, w45 = w44.setCell ⟨r4, 2, none⟩ (Slc.v s43) ->
  aw w45 ⟨r4, 3, none⟩ 1 /\ ∀ w46, w46 = w45.setCell ⟨r4, 3, none⟩ (.int .i64 next14) ->
  Calls Tryz.prog b9 ⟨[(.pointer s1), (.int .i64 place2), (.int .i64 next14)]⟩ w46 fun e47 w48 =>
  ∃ s49 : Slc, ∃ n50 : Int, ∃ b51, e47 = .returned (.tuple ⟨[s49.v, (.int .i64 n50), (.bool b51)]⟩) /\
  (I11 (s49) (n50) (b51) w48 /\ mu12 (s49) (n50) (b51) w48 < mu12 b13 next14 is15 w16)) (
  K (.pointer (some ⟨r4, 0, none⟩)) w16))
theorem rQ (s1 : Option Addr) (place2 : Int) (number3 : Int) {w : World} {R : Ending -> World -> Prop} (h : py s1 place2 number3 w fun v w' => R (.returned v) w') : Calls Tryz.prog iD ⟨[(.pointer s1), (.int .i64 place2), (.int .i64 number3)]⟩ w R :=
  ab (ann := (.two .none (.two .none (.two (.two .none (.one (.loop [(8, Sh.slc), (9, (Sh.int .i64)), (10, Sh.bool)] (List.range' 22 23) .none))) .none)))) ag mixed Tryz.func104 (Eq.mp (by kernel_rfl) h)
def pz (s1 : Option Addr) (w : World) (K : Value -> World -> Prop) : Prop :=
  needSome s1 fun a2 =>
  ∃ p3 : Option Addr, w.cell? a2 = some (.pointer p3) /\
  Calls Tryz.prog fL ⟨[(.pointer p3)]⟩ w fun e4 w5 =>
  ∃ n6, e4 = .returned (.int .i64 n6) /\
  0 <= n6 /\ 0 < (64 : Int) /\ inR .i64 n6 /\
  K (.int .i64 (n6 / 64)) w5
theorem rR (s1 : Option Addr) {w : World} {R : Ending -> World -> Prop} (h : pz s1 w fun v w' => R (.returned v) w') : Calls Tryz.prog dR ⟨[(.pointer s1)]⟩ w R :=
  ab (ann := .none) ag mixed Tryz.func102 (Eq.mp (by kernel_rfl) h)
def nL (s1 : Option Addr) (place2 : Int) (i3 : Int) (b4 : Slc) (w : World) (K : Value -> World -> Prop) : Prop :=
  needSome s1 fun a5 =>
  ∃ p6 : Option Addr, w.cell? a5 = some (.pointer p6) /\
  inR .i64 (place2 * 64) /\
  inR .i64 ((place2 * 64) + i3) /\
  Calls Tryz.prog gu ⟨[(.pointer p6), (.int .i64 ((place2 * 64) + i3)), b4.v]⟩ w fun e7 w8 =>
  ∃ e9, e7 = .returned e9 /\
  K e9 w8
theorem rk (s1 : Option Addr) (place2 : Int) (i3 : Int) (b4 : Slc) {w : World} {R : Ending -> World -> Prop} (h : nL s1 place2 i3 b4 w fun v w' => R (.returned v) w') : Calls Tryz.prog cA ⟨[(.pointer s1), (.int .i64 place2), (.int .i64 i3), b4.v]⟩ w R :=
  ab (ann := .none) ag mixed Tryz.func129 (Eq.mp (by kernel_rfl) h)
def pA (s1 : Option Addr) (place2 : Int) (i3 : Int) (b4 : Slc) (w : World) (K : Value -> World -> Prop) : Prop :=
  Calls Tryz.prog cA ⟨[(.pointer s1), (.int .i64 place2), (.int .i64 i3), b4.v]⟩ w fun e5 w6 =>
  ∃ e7, e5 = .returned e7 /\
  isI e7 /\
  BIf (!isNilI e7) (
  K e7 w6) (
  needSome s1 fun a8 =>
  ∃ p9 : Option Addr, w6.cell? a8 = some (.pointer p9) /\
  Calls Tryz.prog b7 ⟨[(.pointer p9)]⟩ w6 fun e10 w11 =>
  ∃ e12, e10 = .returned e12 /\
  K e12 w11)
theorem rS (s1 : Option Addr) (place2 : Int) (i3 : Int) (b4 : Slc) {w : World} {R : Ending -> World -> Prop} (h : pA s1 place2 i3 b4 w fun v w' => R (.returned v) w') : Calls Tryz.prog dU ⟨[(.pointer s1), (.int .i64 place2), (.int .i64 i3), b4.v]⟩ w R :=
  ab (ann := .none) ag mixed Tryz.func131 (Eq.mp (by kernel_rfl) h)
def pB (s1 : Option Addr) (w : World) (K : Value -> World -> Prop) : Prop :=
  needSome s1 fun a2 =>
  ∃ s3, w.cell? (a2.add 1) = some (Slc.v s3) /\
  BIf (decide ((s3.l : Int) = (0 : Int))) (
  K (.int .i64 (-1 : Int)) w) (
  needSome s1 fun a4 =>
  ∃ s5, w.drew.cell? (a4.add 1) = some (Slc.v s5) /\
  needSome s1 fun a6 =>
  ∃ s7, w.drew.cell? (a6.add 1) = some (Slc.v s7) /\
  inR .i64 ((s7.l : Int) - (1 : Int)) /\
  needSome s5.p fun a8 =>
  0 <= ((s7.l : Int) - (1 : Int)) /\ ((s7.l : Int) - (1 : Int)) < (s5.l : Int) /\
  ∃ p9 : Option Addr, w.drew.cell? (Addr.add a8 ((Int.toNat ((s7.l : Int) - (1 : Int))) * 1)) = some (.pointer p9) /\
  needSome p9 fun a10 =>
  ∃ n11, w.drew.cell? (a10.add 1) = some (.int .i64 n11) /\
  K (.int .i64 n11) w.drew)
theorem rT (s1 : Option Addr) {w : World} {R : Ending -> World -> Prop} (h : pB s1 w fun v w' => R (.returned v) w') : Calls Tryz.prog fH ⟨[(.pointer s1)]⟩ w R :=
  ab (ann := .none) ag mixed Tryz.func90 (Eq.mp (by kernel_rfl) h)
def kI (s1 : Option Addr) (w : World) (K : Value -> World -> Prop) : Prop :=
  needSome s1 fun a2 =>
  ∃ s3, w.cell? (a2.add 1) = some (Slc.v s3) /\
  ∃ (I4 : (Slc) -> (Int) -> World -> Prop) (mu5 : (Slc) -> (Int) -> World -> Nat), I4 (⟨none, 0, 0⟩) ((0 : Int)) w /\ (
  ∀ out6 : Slc, ∀ i7 : Int, ∀ w8 : World, I4 out6 i7 w8 -> ∀ _ _ _ _ _ _ _ _ _ _ _ _ : Value,
  BIf (decide (i7 < (s3.l : Int))) (
  needSome s3.p fun a21 =>
  0 <= i7 /\ i7 < (s3.l : Int) /\
  ∃ p22 : Option Addr, w8.cell? (Addr.add a21 ((Int.toNat i7) * 1)) = some (.pointer p22) /\
  needSome p22 fun a23 =>
  ∃ n24, w8.cell? (a23.add 1) = some (.int .i64 n24) /\
  aA w8 (.cells ⟨[(.int .i64 n24)]⟩ 3) fun r25 w26 =>
  ak 1 3 [(.int .i64 0)] w26 out6 (.slc (⟨(some ⟨r25, 0, none⟩), 1, 1⟩ : Slc)) fun s27 w28 =>
  inR .i64 (i7 + 1) /\
  (I4 (s27) ((i7 + 1)) w28 /\ mu5 (s27) ((i7 + 1)) w28 < mu5 out6 i7 w8)) (
  K out6.v w8))
theorem oO (s1 : Option Addr) {w : World} {R : Ending -> World -> Prop} (h : kI s1 w fun v w' => R (.returned v) w') : Calls Tryz.prog dH ⟨[(.pointer s1)]⟩ w R :=
  ab (ann := (.two .none (.two .none (.two (.two .none (.one (.loop [(3, Sh.slc), (11, (Sh.int .i64))] ([5] ++ List.range' 12 11) .none))) .none)))) ag mixed Tryz.func78 (Eq.mp (by kernel_rfl) h)
def lL (s1 : Option Addr) (number2 : Int) (w : World) (K : Value -> World -> Prop) : Prop :=
  Calls Tryz.prog fJ ⟨[(.pointer s1), (.int .i64 number2)]⟩ w fun e3 w4 =>
  ∃ n5, e3 = .returned (.int .i64 n5) /\
  BIf (decide (n5 < 0)) (
  K (Slc.v ⟨none, 0, 0⟩) w4) (
  needSome s1 fun a6 =>
  ∃ s7, w4.cell? (a6.add 1) = some (Slc.v s7) /\
  needSome s7.p fun a8 =>
  0 <= n5 /\ n5 < (s7.l : Int) /\
  ∃ p9 : Option Addr, w4.cell? (Addr.add a8 ((Int.toNat n5) * 1)) = some (.pointer p9) /\
  needSome p9 fun a10 =>
  ∃ s11, w4.cell? (a10.add 2) = some (Slc.v s11) /\
  ∃ (I12 : (Slc) -> (Int) -> World -> Prop) (mu13 : (Slc) -> (Int) -> World -> Nat), I12 (⟨none, 0, 0⟩) ((0 : Int)) w4 /\ (
  ∀ out14 : Slc, ∀ i15 : Int, ∀ w16 : World, I12 out14 i15 w16 -> ∀ _ _ _ _ _ _ _ _ _ _ : Value,
  BIf (decide (i15 < (s11.l : Int))) (
  needSome s11.p fun a27 =>
  0 <= i15 /\ i15 < (s11.l : Int) /\
  ∃ s28, w16.cell? (Addr.add a27 ((Int.toNat i15) * 1)) = some (Slc.v s28) /\
  Calls Tryz.prog aQ ⟨[s28.v]⟩ w16 fun e29 w30 =>
  ∃ s31, e29 = .returned (Slc.v s31) /\
  aA w30 (.cells ⟨[s31.v]⟩ 45) fun r32 w33 =>
  ak 1 45 [(Slc.v ⟨none, 0, 0⟩)] w33 out14 (.slc (⟨(some ⟨r32, 0, none⟩), 1, 1⟩ : Slc)) fun s34 w35 =>
  inR .i64 (i15 + 1) /\
  (I12 (s34) ((i15 + 1)) w35 /\ mu13 (s34) ((i15 + 1)) w35 < mu13 out14 i15 w16)) (
  K out14.v w16)))
theorem pS (s1 : Option Addr) (number2 : Int) {w : World} {R : Ending -> World -> Prop} (h : lL s1 number2 w fun v w' => R (.returned v) w') : Calls Tryz.prog fY ⟨[(.pointer s1), (.int .i64 number2)]⟩ w R :=
  ab (ann := (.two .none (.two .none (.two .none (.two .none (.two (.two .none (.one (.loop [(6, Sh.slc), (25, (Sh.int .i64))] ([8] ++ List.range' 26 9) .none))) .none)))))) ag mixed Tryz.func79 (Eq.mp (by kernel_rfl) h)
end Go.D

