/-
  WHAT IS PROVED: verification conditions of functions of this program, each with its soundness. No further conditions.
-/
import Derived.Test.YtnbddjghhmbmcaaGreatDoorBase
set_option linter.unusedSimpArgs false
set_option maxRecDepth 100000
set_option linter.unusedVariables false
namespace Go.D
open Go Go.Proofs
def oK (n1 : Int) (w : World) (K : Value -> World -> Prop) : Prop :=
  inR .i64 (n1 + (64 : Int)) /\
  inR .i64 ((n1 + (64 : Int)) - (1 : Int)) /\
  0 <= ((n1 + (64 : Int)) - (1 : Int)) /\ 0 < (64 : Int) /\ inR .i64 ((n1 + (64 : Int)) - (1 : Int)) /\
  K (.int .i64 (((n1 + (64 : Int)) - (1 : Int)) / (64 : Int))) w
theorem qR (n1 : Int) {w : World} {R : Ending -> World -> Prop} (h : oK n1 w fun v w' => R (.returned v) w') : Calls Tryz.prog fm ⟨[(.int .i64 n1)]⟩ w R :=
  ab (ann := .none) ag mixed Tryz.func126 (Eq.mp (by kernel_rfl) h)
def uC (n1 : Int) (m2 : Int) (w : World) (K : Value -> World -> Prop) : Prop :=
  0 <= (64 : Int) /\ (64 : Int) <= (64 : Int) /\ (64 : Int) <= 2 ^ 30 /\
  aP w (.cells ⟨bh 64 [(.int .u8 (0 : Int))]⟩ 5) fun r3 w4 =>
  ∃ (I5 : (Int) -> World -> Prop) (mu6 : (Int) -> World -> Nat), I5 ((0 : Int)) w4 /\ (
  ∀ i7 : Int, ∀ w8 : World, I5 i7 w8 -> ∀ _ _ _ _ _ _ _ _ _ _ _ _ : Value,
  BIf (decide (i7 < (8 : Int))) (
  inR .i64 ((8 : Int) * i7) /\
  0 <= ((8 : Int) * i7) /\ 0 <= n1 /\
  0 <= i7 /\ i7 < ((64 : Nat) : Int) /\
  aJ w8 (Addr.add ⟨r3, 0, none⟩ ((Int.toNat i7) * 1)) 1 /\ ∀ w21, w21 = w8.setCell (Addr.add ⟨r3, 0, none⟩ ((Int.toNat i7) * 1)) (.int .u8 (IntKind.wrap .u8 (n1 / ((2 ^ min (Int.toNat ((8 : Int) * i7)) 64 : Nat) : Int)))) ->
  inR .i64 (i7 + (1 : Int)) /\
  (I5 ((i7 + (1 : Int))) w21 /\ mu6 ((i7 + (1 : Int))) w21 < mu6 i7 w8)) (
  0 <= (63 : Int) /\ (63 : Int) < ((64 : Nat) : Int) /\
  aJ w8 ⟨r3, 63, none⟩ 1 /\ ∀ w22, w22 = w8.setCell ⟨r3, 63, none⟩ (.int .u8 m2) ->
  K (Slc.v (⟨(some ⟨r3, 0, none⟩), 64, 64⟩ : Slc)) w22))
theorem vn (n1 : Int) (m2 : Int) {w : World} {R : Ending -> World -> Prop} (h : uC n1 m2 w fun v w' => R (.returned v) w') : Calls Tryz.prog fZ ⟨[(.int .i64 n1), (.int .u8 m2)]⟩ w R :=
  ab (ann := (.two .none (.two .none (.two (.two .none (.one (.loop [(8, (Sh.int .i64))] ([6] ++ List.range' 9 11) .none))) .none)))) ag mixed Tryz.func132 (Eq.mp (by kernel_rfl) h)
def qx (b1 : Slc) (many2 : Int) (w : World) (K : Value -> World -> Prop) : Prop :=
  ∃ (I3 : (Int) -> (Int) -> World -> Prop) (mu4 : (Int) -> (Int) -> World -> Nat), I3 ((0 : Int)) ((0 : Int)) w /\ (
  ∀ n5 : Int, ∀ i6 : Int, ∀ w7 : World, I3 n5 i6 w7 -> ∀ _ _ _ _ _ _ _ _ _ _ _ _ _ _ : Value,
  BIf (decide (i6 < many2)) (
  needSome b1.p fun a22 =>
  0 <= i6 /\ i6 < (b1.l : Int) /\
  ∃ n23, w7.cell? (Addr.add a22 ((Int.toNat i6) * 1)) = some (.int .u8 n23) /\
  inR .i64 n23 /\
  inR .i64 ((8 : Int) * i6) /\
  0 <= ((8 : Int) * i6) /\
  inR .i64 (n23 * ((2 ^ min (Int.toNat ((8 : Int) * i6)) 64 : Nat) : Int)) /\
  0 <= n5 /\ 0 <= (n23 * ((2 ^ min (Int.toNat ((8 : Int) * i6)) 64 : Nat) : Int)) /\ inR .i64 n5 /\ inR .i64 (n23 * ((2 ^ min (Int.toNat ((8 : Int) * i6)) 64 : Nat) : Int)) /\
  inR .i64 (i6 + (1 : Int)) /\
  (I3 ((bitsI .or n5 (n23 * ((2 ^ min (Int.toNat ((8 : Int) * i6)) 64 : Nat) : Int)))) ((i6 + (1 : Int))) w7 /\ mu4 ((bitsI .or n5 (n23 * ((2 ^ min (Int.toNat ((8 : Int) * i6)) 64 : Nat) : Int)))) ((i6 + (1 : Int))) w7 < mu4 n5 i6 w7)) (
  K (.int .i64 n5) w7))
theorem rX (b1 : Slc) (many2 : Int) {w : World} {R : Ending -> World -> Prop} (h : qx b1 many2 w fun v w' => R (.returned v) w') : Calls Tryz.prog fV ⟨[(Slc.v b1), (.int .i64 many2)]⟩ w R :=
  ab (ann := (.two .none (.two .none (.two (.two .none (.one (.loop [(5, (Sh.int .i64)), (8, (Sh.int .i64))] ([6] ++ List.range' 9 13) .none))) .none)))) ag mixed Tryz.func105 (Eq.mp (by kernel_rfl) h)
def jh (s1 : Option Addr) (place2 : Int) (i3 : Int) (w : World) (K : Value -> World -> Prop) : Prop :=
  needSome s1 fun a4 =>
  ∃ p5 : Option Addr, w.cell? a4 = some (.pointer p5) /\
  inR .i64 (place2 * (64 : Int)) /\
  inR .i64 ((place2 * (64 : Int)) + i3) /\
  Calls Tryz.prog fc ⟨[(.pointer p5), (.int .i64 ((place2 * (64 : Int)) + i3))]⟩ w fun e6 w7 =>
  ∃ s8 : Slc, ∃ e9, e6 = .returned (.tuple ⟨[(Slc.v s8), e9]⟩) /\
  isI e9 /\
  BIf (!isNilI e9) (
  0 <= (64 : Int) /\ (64 : Int) <= (64 : Int) /\ (64 : Int) <= 2 ^ 30 /\
  aP w7 (.cells ⟨bh 64 [(.int .u8 (0 : Int))]⟩ 5) fun r10 w11 =>
  K (Slc.v (⟨(some ⟨r10, 0, none⟩), 64, 64⟩ : Slc)) w11) (
  K (Slc.v s8) w7)
theorem lQ (s1 : Option Addr) (place2 : Int) (i3 : Int) {w : World} {R : Ending -> World -> Prop} (h : jh s1 place2 i3 w fun v w' => R (.returned v) w') : Calls Tryz.prog bz ⟨[(.pointer s1), (.int .i64 place2), (.int .i64 i3)]⟩ w R :=
  ab (ann := .none) ag mixed Tryz.func103 (Eq.mp (by kernel_rfl) h)
def gd (s1 : Option Addr) (place2 : Int) (at3 : Int) (w : World) (K : Value -> World -> Prop) : Prop :=
  BIf (decide ((64 : Int) <= at3)) (
  K (.tuple ⟨[(Slc.v ⟨none, 0, 0⟩), (.int .i64 (0 : Int)), (.bool false)]⟩) w) (
  Calls Tryz.prog bz ⟨[(.pointer s1), (.int .i64 place2), (.int .i64 at3)]⟩ w fun e4 w5 =>
  ∃ s6, e4 = .returned (Slc.v s6) /\
  Calls Tryz.prog fV ⟨[(Slc.v s6), (.int .i64 (2 : Int))]⟩ w5 fun e7 w8 =>
  ∃ n9, e7 = .returned (.int .i64 n9) /\
  inR .i64 (at3 + (1 : Int)) /\
  Calls Tryz.prog fm ⟨[(.int .i64 n9)]⟩ w8 fun e10 w11 =>
  ∃ n12, e10 = .returned (.int .i64 n12) /\
  inR .i64 ((at3 + (1 : Int)) + n12) /\
  ∃ J13 : World -> Prop,
  (
  needSome s6.p fun a14 =>
  0 <= (63 : Int) /\ (63 : Int) < (s6.l : Int) /\
  ∃ n15, w11.cell? (a14.add 63) = some (.int .u8 n15) /\
  BIf (!decide (n15 = (1 : Int))) (
  K (.tuple ⟨[(Slc.v ⟨none, 0, 0⟩), (.int .i64 (0 : Int)), (.bool false)]⟩) w11) (
  BIf (decide (n9 = (0 : Int))) (
  K (.tuple ⟨[(Slc.v ⟨none, 0, 0⟩), (.int .i64 (0 : Int)), (.bool false)]⟩) w11) (
  BIf (decide ((64 : Int) < ((at3 + (1 : Int)) + n12))) (
  K (.tuple ⟨[(Slc.v ⟨none, 0, 0⟩), (.int .i64 (0 : Int)), (.bool false)]⟩) w11) (
  J13 w11)))) /\ (
  ∀ w16 : World, J13 w16 -> ∀ _ _ _ _ _ _ _ _ _ _ _ _ _ _ _ : Value,
  inR .i64 (at3 + (1 : Int)) /\
  ∃ (I32 : (Slc) -> (Int) -> World -> Prop) (mu33 : (Slc) -> (Int) -> World -> Nat), I32 (⟨none, 0, 0⟩) ((at3 + (1 : Int))) w16 /\ (
  ∀ b34 : Slc, ∀ i35 : Int, ∀ w36 : World, I32 b34 i35 w36 -> ∀ _ _ _ _ _ _ _ _ _ _ _ : Value,
  BIf (decide (i35 < ((at3 + (1 : Int)) + n12))) (
  Calls Tryz.prog bz ⟨[(.pointer s1), (.int .i64 place2), (.int .i64 i35)]⟩ w36 fun e48 w49 =>
  ∃ s50, e48 = .returned (Slc.v s50) /\
  aM 1 5 [(.int .u8 (0 : Int))] w49 b34 (.slc s50) fun s51 w52 =>
  inR .i64 (i35 + (1 : Int)) /\
  (I32 (s51) ((i35 + (1 : Int))) w52 /\ mu33 (s51) ((i35 + (1 : Int))) w52 < mu33 b34 i35 w36)) (
  0 <= (0 : Int) /\ (0 : Int) <= n9 /\ n9 <= (b34.c : Int) /\ (b34.c : Int) <= (b34.c : Int) /\
  K (.tuple ⟨[(Slc.v (Slc.sub b34 1 0 (Int.toNat n9) b34.c)), (.int .i64 ((at3 + (1 : Int)) + n12)), (.bool true)]⟩) w36))))
theorem gR (s1 : Option Addr) (place2 : Int) (at3 : Int) {w : World} {R : Ending -> World -> Prop} (h : gd s1 place2 at3 w fun v w' => R (.returned v) w') : Calls Tryz.prog bB ⟨[(.pointer s1), (.int .i64 place2), (.int .i64 at3)]⟩ w R :=
  ab (ann := (.two .none (.two .none (.two .none (.two .none (.two .none (.cut [] ([6, 7, 8] ++ List.range' 27 12) .none (.two .none (.two (.two .none (.one (.loop [(12, Sh.slc), (13, (Sh.int .i64))] (List.range' 41 11) .none))) .none))))))))) ag mixed Tryz.func138 (Eq.mp (by kernel_rfl) h)
def kS (s1 : Option Addr) (place2 : Int) (number3 : Int) (w : World) (K : Value -> World -> Prop) : Prop :=
  aP w (.cells ⟨[(.int .i64 place2), (.int .i64 number3), (Slc.v ⟨none, 0, 0⟩), (.int .i64 (1 : Int))]⟩ 182) fun r4 w5 =>
  Calls Tryz.prog bB ⟨[(.pointer s1), (.int .i64 place2), (.int .i64 (1 : Int))]⟩ w5 fun e6 w7 =>
  ∃ s8 : Slc, ∃ n9 : Int, ∃ b10, e6 = .returned (.tuple ⟨[(Slc.v s8), (.int .i64 n9), (.bool b10)]⟩) /\
  ∃ (I11 : (Slc) -> (Int) -> (Bool) -> World -> Prop) (mu12 : (Slc) -> (Int) -> (Bool) -> World -> Nat), I11 (s8) (n9) (b10) w7 /\ (
  ∀ b13 : Slc, ∀ next14 : Int, ∀ is15 : Bool, ∀ w16 : World, I11 b13 next14 is15 w16 -> ∀ _ _ _ _ _ _ _ _ _ _ _ _ _ _ _ _ _ _ _ _ _ _ _ : Value,
  BIf is15 (
  ∃ s40, w16.cell? ⟨r4, 2, none⟩ = some (Slc.v s40) /\
  aP w16 (.cells ⟨[(Slc.v b13)]⟩ 45) fun r41 w42 =>
  aM 1 45 [(Slc.v ⟨none, 0, 0⟩)] w42 s40 (.slc (⟨(some ⟨r41, 0, none⟩), 1, 1⟩ : Slc)) fun s43 w44 =>
  aJ w44 ⟨r4, 2, none⟩ 1 /\ ∀ w45, w45 = w44.setCell ⟨r4, 2, none⟩ (Slc.v s43) ->
  aJ w45 ⟨r4, 3, none⟩ 1 /\ ∀ w46, w46 = w45.setCell ⟨r4, 3, none⟩ (.int .i64 next14) ->
  Calls Tryz.prog bB ⟨[(.pointer s1), (.int .i64 place2), (.int .i64 next14)]⟩ w46 fun e47 w48 =>
  ∃ s49 : Slc, ∃ n50 : Int, ∃ b51, e47 = .returned (.tuple ⟨[(Slc.v s49), (.int .i64 n50), (.bool b51)]⟩) /\
  (I11 (s49) (n50) (b51) w48 /\ mu12 (s49) (n50) (b51) w48 < mu12 b13 next14 is15 w16)) (
  K (.pointer (some ⟨r4, 0, none⟩)) w16))
theorem nz (s1 : Option Addr) (place2 : Int) (number3 : Int) {w : World} {R : Ending -> World -> Prop} (h : kS s1 place2 number3 w fun v w' => R (.returned v) w') : Calls Tryz.prog fx ⟨[(.pointer s1), (.int .i64 place2), (.int .i64 number3)]⟩ w R :=
  ab (ann := (.two .none (.two .none (.two (.two .none (.one (.loop [(8, Sh.slc), (9, (Sh.int .i64)), (10, Sh.bool)] (List.range' 22 23) .none))) .none)))) ag mixed Tryz.func104 (Eq.mp (by kernel_rfl) h)
def kT (s1 : Option Addr) (w : World) (K : Value -> World -> Prop) : Prop :=
  needSome s1 fun a2 =>
  ∃ p3 : Option Addr, w.cell? a2 = some (.pointer p3) /\
  Calls Tryz.prog dT ⟨[(.pointer p3)]⟩ w fun e4 w5 =>
  ∃ n6, e4 = .returned (.int .i64 n6) /\
  0 <= n6 /\ 0 < (64 : Int) /\ inR .i64 n6 /\
  K (.int .i64 (n6 / (64 : Int))) w5
theorem nA (s1 : Option Addr) {w : World} {R : Ending -> World -> Prop} (h : kT s1 w fun v w' => R (.returned v) w') : Calls Tryz.prog cv ⟨[(.pointer s1)]⟩ w R :=
  ab (ann := .none) ag mixed Tryz.func102 (Eq.mp (by kernel_rfl) h)
def j1 (s1 : Option Addr) (place2 : Int) (i3 : Int) (b4 : Slc) (w : World) (K : Value -> World -> Prop) : Prop :=
  needSome s1 fun a5 =>
  ∃ p6 : Option Addr, w.cell? a5 = some (.pointer p6) /\
  inR .i64 (place2 * (64 : Int)) /\
  inR .i64 ((place2 * (64 : Int)) + i3) /\
  Calls Tryz.prog eK ⟨[(.pointer p6), (.int .i64 ((place2 * (64 : Int)) + i3)), (Slc.v b4)]⟩ w fun e7 w8 =>
  ∃ e9, e7 = .returned e9 /\
  K e9 w8
theorem mO (s1 : Option Addr) (place2 : Int) (i3 : Int) (b4 : Slc) {w : World} {R : Ending -> World -> Prop} (h : j1 s1 place2 i3 b4 w fun v w' => R (.returned v) w') : Calls Tryz.prog bJ ⟨[(.pointer s1), (.int .i64 place2), (.int .i64 i3), (Slc.v b4)]⟩ w R :=
  ab (ann := .none) ag mixed Tryz.func129 (Eq.mp (by kernel_rfl) h)
def kU (s1 : Option Addr) (place2 : Int) (i3 : Int) (b4 : Slc) (w : World) (K : Value -> World -> Prop) : Prop :=
  Calls Tryz.prog bJ ⟨[(.pointer s1), (.int .i64 place2), (.int .i64 i3), (Slc.v b4)]⟩ w fun e5 w6 =>
  ∃ e7, e5 = .returned e7 /\
  isI e7 /\
  BIf (!isNilI e7) (
  K e7 w6) (
  needSome s1 fun a8 =>
  ∃ p9 : Option Addr, w6.cell? a8 = some (.pointer p9) /\
  Calls Tryz.prog bA ⟨[(.pointer p9)]⟩ w6 fun e10 w11 =>
  ∃ e12, e10 = .returned e12 /\
  K e12 w11)
theorem nB (s1 : Option Addr) (place2 : Int) (i3 : Int) (b4 : Slc) {w : World} {R : Ending -> World -> Prop} (h : kU s1 place2 i3 b4 w fun v w' => R (.returned v) w') : Calls Tryz.prog cA ⟨[(.pointer s1), (.int .i64 place2), (.int .i64 i3), (Slc.v b4)]⟩ w R :=
  ab (ann := .none) ag mixed Tryz.func131 (Eq.mp (by kernel_rfl) h)
def kV (s1 : Option Addr) (w : World) (K : Value -> World -> Prop) : Prop :=
  needSome s1 fun a2 =>
  ∃ s3, w.cell? (a2.add 1) = some (Slc.v s3) /\
  BIf (decide ((s3.l : Int) = (0 : Int))) (
  K (.int .i64 (-1 : Int)) w) (
  needSome s1 fun a4 =>
  ∃ s5, w.drew.cell? (a4.add 1) = some (Slc.v s5) /\
  needSome s1 fun a6 =>
  ∃ s7, w.drew.cell? (a6.add 1) = some (Slc.v s7) /\
  inR .i64 ((s7.l : Int) - (1 : Int)) /\
  needSome s5.p fun a8 =>
  0 <= ((s7.l : Int) - (1 : Int)) /\ ((s7.l : Int) - (1 : Int)) < (s5.l : Int) /\
  ∃ p9 : Option Addr, w.drew.cell? (Addr.add a8 ((Int.toNat ((s7.l : Int) - (1 : Int))) * 1)) = some (.pointer p9) /\
  needSome p9 fun a10 =>
  ∃ n11, w.drew.cell? (a10.add 1) = some (.int .i64 n11) /\
  K (.int .i64 n11) w.drew)
theorem nC (s1 : Option Addr) {w : World} {R : Ending -> World -> Prop} (h : kV s1 w fun v w' => R (.returned v) w') : Calls Tryz.prog dQ ⟨[(.pointer s1)]⟩ w R :=
  ab (ann := .none) ag mixed Tryz.func90 (Eq.mp (by kernel_rfl) h)
def hZ (s1 : Option Addr) (w : World) (K : Value -> World -> Prop) : Prop :=
  needSome s1 fun a2 =>
  ∃ s3, w.cell? (a2.add 1) = some (Slc.v s3) /\
  ∃ (I4 : (Slc) -> (Int) -> World -> Prop) (mu5 : (Slc) -> (Int) -> World -> Nat), I4 (⟨none, 0, 0⟩) ((0 : Int)) w /\ (
  ∀ out6 : Slc, ∀ i7 : Int, ∀ w8 : World, I4 out6 i7 w8 -> ∀ _ _ _ _ _ _ _ _ _ _ _ _ : Value,
  BIf (decide (i7 < (s3.l : Int))) (
  needSome s3.p fun a21 =>
  0 <= i7 /\ i7 < (s3.l : Int) /\
  ∃ p22 : Option Addr, w8.cell? (Addr.add a21 ((Int.toNat i7) * 1)) = some (.pointer p22) /\
  needSome p22 fun a23 =>
  ∃ n24, w8.cell? (a23.add 1) = some (.int .i64 n24) /\
  aP w8 (.cells ⟨[(.int .i64 n24)]⟩ 3) fun r25 w26 =>
  aM 1 3 [(.int .i64 (0 : Int))] w26 out6 (.slc (⟨(some ⟨r25, 0, none⟩), 1, 1⟩ : Slc)) fun s27 w28 =>
  inR .i64 (i7 + (1 : Int)) /\
  (I4 (s27) ((i7 + (1 : Int))) w28 /\ mu5 (s27) ((i7 + (1 : Int))) w28 < mu5 out6 i7 w8)) (
  K (Slc.v out6) w8))
theorem kB (s1 : Option Addr) {w : World} {R : Ending -> World -> Prop} (h : hZ s1 w fun v w' => R (.returned v) w') : Calls Tryz.prog cq ⟨[(.pointer s1)]⟩ w R :=
  ab (ann := (.two .none (.two .none (.two (.two .none (.one (.loop [(3, Sh.slc), (11, (Sh.int .i64))] ([5] ++ List.range' 12 11) .none))) .none)))) ag mixed Tryz.func78 (Eq.mp (by kernel_rfl) h)
def iI (s1 : Option Addr) (number2 : Int) (w : World) (K : Value -> World -> Prop) : Prop :=
  Calls Tryz.prog dS ⟨[(.pointer s1), (.int .i64 number2)]⟩ w fun e3 w4 =>
  ∃ n5, e3 = .returned (.int .i64 n5) /\
  BIf (decide (n5 < (0 : Int))) (
  K (Slc.v ⟨none, 0, 0⟩) w4) (
  needSome s1 fun a6 =>
  ∃ s7, w4.cell? (a6.add 1) = some (Slc.v s7) /\
  needSome s7.p fun a8 =>
  0 <= n5 /\ n5 < (s7.l : Int) /\
  ∃ p9 : Option Addr, w4.cell? (Addr.add a8 ((Int.toNat n5) * 1)) = some (.pointer p9) /\
  needSome p9 fun a10 =>
  ∃ s11, w4.cell? (a10.add 2) = some (Slc.v s11) /\
  ∃ (I12 : (Slc) -> (Int) -> World -> Prop) (mu13 : (Slc) -> (Int) -> World -> Nat), I12 (⟨none, 0, 0⟩) ((0 : Int)) w4 /\ (
  ∀ out14 : Slc, ∀ i15 : Int, ∀ w16 : World, I12 out14 i15 w16 -> ∀ _ _ _ _ _ _ _ _ _ _ : Value,
  BIf (decide (i15 < (s11.l : Int))) (
  needSome s11.p fun a27 =>
  0 <= i15 /\ i15 < (s11.l : Int) /\
  ∃ s28, w16.cell? (Addr.add a27 ((Int.toNat i15) * 1)) = some (Slc.v s28) /\
  Calls Tryz.prog aK ⟨[(Slc.v s28)]⟩ w16 fun e29 w30 =>
  ∃ s31, e29 = .returned (Slc.v s31) /\
  aP w30 (.cells ⟨[(Slc.v s31)]⟩ 45) fun r32 w33 =>
  aM 1 45 [(Slc.v ⟨none, 0, 0⟩)] w33 out14 (.slc (⟨(some ⟨r32, 0, none⟩), 1, 1⟩ : Slc)) fun s34 w35 =>
  inR .i64 (i15 + (1 : Int)) /\
  (I12 (s34) ((i15 + (1 : Int))) w35 /\ mu13 (s34) ((i15 + (1 : Int))) w35 < mu13 out14 i15 w16)) (
  K (Slc.v out14) w16)))
theorem lv (s1 : Option Addr) (number2 : Int) {w : World} {R : Ending -> World -> Prop} (h : iI s1 number2 w fun v w' => R (.returned v) w') : Calls Tryz.prog eu ⟨[(.pointer s1), (.int .i64 number2)]⟩ w R :=
  ab (ann := (.two .none (.two .none (.two .none (.two .none (.two (.two .none (.one (.loop [(6, Sh.slc), (25, (Sh.int .i64))] ([8] ++ List.range' 26 9) .none))) .none)))))) ag mixed Tryz.func79 (Eq.mp (by kernel_rfl) h)
end Go.D

