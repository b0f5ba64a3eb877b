/-
  WHAT IS PROVED: verification conditions of functions of this program, each with its soundness. No further conditions.
-/
import Derived.Test.YtppbbkmjjpggkaaGreatDoorBase
set_option linter.unusedSimpArgs false
set_option maxRecDepth 100000
set_option linter.unusedVariables false
namespace Go.D
open Go Go.Proofs
def nJ (x1 : Int) (y2 : Int) (w : World) (K : Value -> World -> Prop) : Prop :=
  0 <= x1 /\ 0 <= (4294967295 : Int) /\ inR .u64 x1 /\ inR .u64 (4294967295 : Int) /\
  0 <= (32 : Int) /\ 0 <= x1 /\
  0 <= y2 /\ 0 <= (4294967295 : Int) /\ inR .u64 y2 /\ inR .u64 (4294967295 : Int) /\
  0 <= (32 : Int) /\ 0 <= y2 /\
  0 <= (32 : Int) /\ 0 <= (IntKind.wrap .u64 ((bitsI .and x1 (4294967295 : Int)) * (bitsI .and y2 (4294967295 : Int)))) /\
  0 <= (IntKind.wrap .u64 ((IntKind.wrap .u64 ((x1 / 4294967296) * (bitsI .and y2 (4294967295 : Int)))) + ((IntKind.wrap .u64 ((bitsI .and x1 (4294967295 : Int)) * (bitsI .and y2 (4294967295 : Int)))) / 4294967296))) /\ 0 <= (4294967295 : Int) /\ inR .u64 (IntKind.wrap .u64 ((IntKind.wrap .u64 ((x1 / 4294967296) * (bitsI .and y2 (4294967295 : Int)))) + ((IntKind.wrap .u64 ((bitsI .and x1 (4294967295 : Int)) * (bitsI .and y2 (4294967295 : Int)))) / 4294967296))) /\ inR .u64 (4294967295 : Int) /\
  0 <= (32 : Int) /\ 0 <= (IntKind.wrap .u64 ((IntKind.wrap .u64 ((x1 / 4294967296) * (bitsI .and y2 (4294967295 : Int)))) + ((IntKind.wrap .u64 ((bitsI .and x1 (4294967295 : Int)) * (bitsI .and y2 (4294967295 : Int)))) / 4294967296))) /\
  0 <= (32 : Int) /\ 0 <= (IntKind.wrap .u64 ((bitsI .and (IntKind.wrap .u64 ((IntKind.wrap .u64 ((x1 / 4294967296) * (bitsI .and y2 (4294967295 : Int)))) + ((IntKind.wrap .u64 ((bitsI .and x1 (4294967295 : Int)) * (bitsI .and y2 (4294967295 : Int)))) / 4294967296))) (4294967295 : Int)) + (IntKind.wrap .u64 ((bitsI .and x1 (4294967295 : Int)) * (y2 / 4294967296))))) /\
  K (.tuple ⟨[(.int .u64 (IntKind.wrap .u64 ((IntKind.wrap .u64 ((IntKind.wrap .u64 ((x1 / 4294967296) * (y2 / 4294967296))) + ((IntKind.wrap .u64 ((IntKind.wrap .u64 ((x1 / 4294967296) * (bitsI .and y2 (4294967295 : Int)))) + ((IntKind.wrap .u64 ((bitsI .and x1 (4294967295 : Int)) * (bitsI .and y2 (4294967295 : Int)))) / 4294967296))) / 4294967296))) + ((IntKind.wrap .u64 ((bitsI .and (IntKind.wrap .u64 ((IntKind.wrap .u64 ((x1 / 4294967296) * (bitsI .and y2 (4294967295 : Int)))) + ((IntKind.wrap .u64 ((bitsI .and x1 (4294967295 : Int)) * (bitsI .and y2 (4294967295 : Int)))) / 4294967296))) (4294967295 : Int)) + (IntKind.wrap .u64 ((bitsI .and x1 (4294967295 : Int)) * (y2 / 4294967296))))) / 4294967296)))), (.int .u64 (IntKind.wrap .u64 (x1 * y2)))]⟩) w
theorem qI (x1 : Int) (y2 : Int) {w : World} {R : Ending -> World -> Prop} (h : nJ x1 y2 w fun v w' => R (.returned v) w') : Calls Tryz.prog gE ⟨[(.int .u64 x1), (.int .u64 y2)]⟩ w R :=
  ab (ann := (.two .none (.two .none (.two .none (.two .none (.two .none (.two (.reg [2]) (.two (.reg [2, 5]) (.two .none (.two .none (.two (.reg [3, 4]) (.two (.reg [2, 4, 7]) (.two (.reg [2]) .none))))))))))))) ah mixed Tryz.func127 (Eq.mp (by kernel_rfl) h)
def qa (x1 : Int) (y2 : Int) (w : World) (K : Value -> World -> Prop) : Prop :=
  Calls Tryz.prog gE ⟨[(.int .u64 x1), (.int .u64 y2)]⟩ w fun e3 w4 =>
  ∃ n5 : Int, ∃ n6, e3 = .returned (.tuple ⟨[(.int .u64 n5), (.int .u64 n6)]⟩) /\
  K (.tuple ⟨[(.int .u64 n5), (.int .u64 n6)]⟩) w4
theorem tv (x1 : Int) (y2 : Int) {w : World} {R : Ending -> World -> Prop} (h : qa x1 y2 w fun v w' => R (.returned v) w') : Calls Tryz.prog iY ⟨[(.int .u64 x1), (.int .u64 y2)]⟩ w R :=
  ab (ann := .none) ah mixed Tryz.func97 (Eq.mp (by kernel_rfl) h)
def ki (x1 : Slc) (count2 : Int) (w : World) (K : Value -> World -> Prop) : Prop :=
  ∃ J3 : World -> Prop,
  (
  BIf (decide (count2 < (0 : Int))) (
  False) (
  J3 w)) /\ (
  ∀ w4 : World, J3 w4 -> ∀ _ _ _ : Value,
  Calls Tryz.prog iY ⟨[(.int .u64 (IntKind.wrap .u64 (x1.l : Int))), (.int .u64 (IntKind.wrap .u64 count2))]⟩ w4 fun e8 w9 =>
  ∃ n10 : Int, ∃ n11, e8 = .returned (.tuple ⟨[(.int .u64 n10), (.int .u64 n11)]⟩) /\
  ∃ J12 : World -> Prop,
  (
  BIf (decide ((0 : Int) < n10)) (
  False) (
  BIf (decide ((9223372036854775807 : Int) < n11)) (
  False) (
  J12 w9))) /\ (
  ∀ w13 : World, J12 w13 -> ∀ _ _ _ _ _ _ _ : Value,
  0 <= (IntKind.wrap .i64 n11) /\ (IntKind.wrap .i64 n11) <= (IntKind.wrap .i64 n11) /\ (IntKind.wrap .i64 n11) <= 2 ^ 30 /\
  aH w13 (.cells ⟨aZ (Int.toNat (IntKind.wrap .i64 n11)) [(.bool false), (.bool false)]⟩ 138) fun r21 w22 =>
  copyS 2 w22 (⟨(some ⟨r21, 0, none⟩), (Int.toNat (IntKind.wrap .i64 n11)), (Int.toNat (IntKind.wrap .i64 n11))⟩ : Slc) (.slc x1) fun n23 w24 =>
  ∃ (I25 : (Int) -> World -> Prop) (mu26 : (Int) -> World -> Nat), I25 (n23) w24 /\ (
  ∀ n27 : Int, ∀ w28 : World, I25 n27 w28 -> ∀ _ _ _ _ _ _ _ _ _ _ _ _ _ : Value,
  BIf (decide (n27 < (((Int.toNat (IntKind.wrap .i64 n11)) : Nat) : Int))) (
  0 <= n27 /\ n27 <= (((Int.toNat (IntKind.wrap .i64 n11)) : Nat) : Int) /\ (((Int.toNat (IntKind.wrap .i64 n11)) : Nat) : Int) <= (((Int.toNat (IntKind.wrap .i64 n11)) : Nat) : Int) /\ (((Int.toNat (IntKind.wrap .i64 n11)) : Nat) : Int) <= (((Int.toNat (IntKind.wrap .i64 n11)) : Nat) : Int) /\
  0 <= (0 : Int) /\ (0 : Int) <= n27 /\ n27 <= (((Int.toNat (IntKind.wrap .i64 n11)) : Nat) : Int) /\ (((Int.toNat (IntKind.wrap .i64 n11)) : Nat) : Int) <= (((Int.toNat (IntKind.wrap .i64 n11)) : Nat) : Int) /\
  copyS 2 w28.drew (Slc.sub (⟨(some ⟨r21, 0, none⟩), (Int.toNat (IntKind.wrap .i64 n11)), (Int.toNat (IntKind.wrap .i64 n11))⟩ : Slc) 2 (Int.toNat n27) (Int.toNat (IntKind.wrap .i64 n11)) (Int.toNat (IntKind.wrap .i64 n11))) (.slc (Slc.sub (⟨(some ⟨r21, 0, none⟩), (Int.toNat (IntKind.wrap .i64 n11)), (Int.toNat (IntKind.wrap .i64 n11))⟩ : Slc) 2 0 (Int.toNat n27) (Int.toNat (IntKind.wrap .i64 n11)))) fun n44 w45 =>
  inR .i64 (n27 + n44) /\
  (I25 ((n27 + n44)) w45 /\ mu26 ((n27 + n44)) w45 < mu26 n27 w28)) (
  K (Slc.v (⟨(some ⟨r21, 0, none⟩), (Int.toNat (IntKind.wrap .i64 n11)), (Int.toNat (IntKind.wrap .i64 n11))⟩ : Slc)) w28))))
theorem oe (x1 : Slc) (count2 : Int) {w : World} {R : Ending -> World -> Prop} (h : ki x1 count2 w fun v w' => R (.returned v) w') : Calls Tryz.prog fl ⟨[(Slc.v x1), (.int .i64 count2)]⟩ w R :=
  ab (ann := (.two .none (.cut [] [9, 10, 11] .none (.two .none (.cut [] [21, 22, 23, 24, 25, 26, 27] .none (.two .none (.two .none (.two (.one (.loop [(8, (Sh.int .i64))] (List.range' 34 13) .none)) .none)))))))) ah mixed Tryz.func57 (Eq.mp (by kernel_rfl) h)
def CG (n1 : Int) (w : World) (K : Value -> World -> Prop) : Prop :=
  BIf (decide (n1 < (1 : Int))) (
  ∃ v2, w.drew.cell? ⟨aD, 0, none⟩ = some v2 /\
  K (.tuple ⟨[(.pointer none), v2]⟩) w.drew) (
  BIf (decide ((16 : Int) < n1)) (
  ∃ v3, w.drew.cell? ⟨aD, 0, none⟩ = some v3 /\
  K (.tuple ⟨[(.pointer none), v3]⟩) w.drew) (
  aH w (.cells ⟨[(.bool true), (.bool false)]⟩ 138) fun r4 w5 =>
  Calls Tryz.prog fl ⟨[(Slc.v (⟨(some ⟨r4, 0, none⟩), 1, 1⟩ : Slc)), (.int .i64 n1)]⟩ w5 fun e6 w7 =>
  ∃ s8, e6 = .returned (Slc.v s8) /\
  aH w7 (.cells ⟨[(Slc.v s8), (Slc.v ⟨none, 0, 0⟩), (.int .i64 (0 : Int))]⟩ 141) fun r9 w10 =>
  K (.tuple ⟨[(.pointer (some ⟨r9, 0, none⟩)), .nilIface]⟩) w10))
theorem BI (n1 : Int) {w : World} {R : Ending -> World -> Prop} (h : CG n1 w fun v w' => R (.returned v) w') : Calls Tryz.prog qm ⟨[(.int .i64 n1)]⟩ w R :=
  ab (ann := .none) ah mixed Tryz.func24 (Eq.mp (by kernel_rfl) h)
def uv (t1 : Option Addr) (i2 : Int) (w : World) (K : Value -> World -> Prop) : Prop :=
  BIf (decide ((0 : Int) <= i2)) (
  needSome t1 fun a3 =>
  ∃ s4, w.cell? a3 = some (Slc.v s4) /\
  K (.bool (decide (i2 < (s4.l : Int)))) w) (
  K (.bool false) w)
theorem vZ (t1 : Option Addr) (i2 : Int) {w : World} {R : Ending -> World -> Prop} (h : uv t1 i2 w fun v w' => R (.returned v) w') : Calls Tryz.prog eu ⟨[(.pointer t1), (.int .i64 i2)]⟩ w R :=
  ab (ann := .none) ah mixed Tryz.func58 (Eq.mp (by kernel_rfl) h)
def qb (t1 : Option Addr) (from2 : Int) (to3 : Int) (w : World) (K : Value -> World -> Prop) : Prop :=
  Calls Tryz.prog eu ⟨[(.pointer t1), (.int .i64 from2)]⟩ w.drew fun e4 w5 =>
  ∃ b6, e4 = .returned (.bool b6) /\
  BIf b6 (
  Calls Tryz.prog eu ⟨[(.pointer t1), (.int .i64 to3)]⟩ w5 fun e7 w8 =>
  ∃ b9, e7 = .returned (.bool b9) /\
  BIf b9 (
  needSome t1 fun a10 =>
  ∃ s11, w8.cell? a10 = some (Slc.v s11) /\
  needSome s11.p fun a12 =>
  0 <= from2 /\ from2 < (s11.l : Int) /\
  ∃ b13, w8.cell? (Addr.add a12 ((Int.toNat from2) * 2)) = some (.bool b13) /\
  BIf b13 (
  needSome t1 fun a14 =>
  ∃ s15, w8.cell? a14 = some (Slc.v s15) /\
  needSome s15.p fun a16 =>
  0 <= to3 /\ to3 < (s15.l : Int) /\
  ∃ b17, w8.cell? (Addr.add a16 ((Int.toNat to3) * 2)) = some (.bool b17) /\
  BIf b17 (
  needSome t1 fun a18 =>
  ∃ s19, w8.cell? a18 = some (Slc.v s19) /\
  needSome s19.p fun a20 =>
  0 <= from2 /\ from2 < (s19.l : Int) /\
  ∃ b21, w8.cell? ((Addr.add a20 ((Int.toNat from2) * 2)).add 1) = some (.bool b21) /\
  needSome t1 fun a22 =>
  ∃ s23, w8.cell? a22 = some (Slc.v s23) /\
  needSome s23.p fun a24 =>
  0 <= to3 /\ to3 < (s23.l : Int) /\
  ∃ b25, w8.cell? ((Addr.add a24 ((Int.toNat to3) * 2)).add 1) = some (.bool b25) /\
  K (.bool (b21 == b25)) w8) (
  K (.bool false) w8)) (
  K (.bool false) w8)) (
  K (.bool false) w8)) (
  K (.bool false) w5)
theorem tw (t1 : Option Addr) (from2 : Int) (to3 : Int) {w : World} {R : Ending -> World -> Prop} (h : qb t1 from2 to3 w fun v w' => R (.returned v) w') : Calls Tryz.prog fY ⟨[(.pointer t1), (.int .i64 from2), (.int .i64 to3)]⟩ w R :=
  ab (ann := .none) ah mixed Tryz.func61 (Eq.mp (by kernel_rfl) h)
def uw (t1 : Option Addr) (m2 : Int) (m3 : Int) (m4 : Int) (m5 : Slc) (w : World) (K : Value -> World -> Prop) : Prop :=
  aH w (.cells ⟨[(.int .i64 m2), (.int .i64 m3), (.int .i64 m4), (Slc.v m5)]⟩ 80) fun r6 w7 =>
  needSome t1 fun a8 =>
  ∃ s9, w7.cell? (a8.add 1) = some (Slc.v s9) /\
  BIf (decide ((4096 : Int) <= (s9.l : Int))) (
  ∃ v10, w7.drew.cell? ⟨gH, 0, none⟩ = some v10 /\
  K (.tuple ⟨[(.int .i64 (0 : Int)), v10]⟩) w7.drew) (
  needSome t1 fun a11 =>
  ∃ n12, w7.drew.cell? (a11.add 2) = some (.int .i64 n12) /\
  ∃ s13, w7.drew.cell? ⟨r6, 3, none⟩ = some (Slc.v s13) /\
  Calls Tryz.prog ar ⟨[(Slc.v s13)]⟩ w7.drew fun e14 w15 =>
  ∃ s16, e14 = .returned (Slc.v s16) /\
  (∃ n17, w15.cell? (a11.add 2) = some (.int .i64 n17) /\
  (Value.int .i64 n17) = (Value.int .i64 n12)) /\
  az w15 ⟨r6, 0, none⟩ 1 /\ ∀ w18, w18 = w15.setCell ⟨r6, 0, none⟩ (.int .i64 n12) ->
  az w18 ⟨r6, 3, none⟩ 1 /\ ∀ w19, w19 = w18.setCell ⟨r6, 3, none⟩ (Slc.v s16) ->
  needSome t1 fun a20 =>
  ∃ s21, w19.drew.cell? (a20.add 1) = some (Slc.v s21) /\
  ∃ n22 : Int, ∃ n23 : Int, ∃ n24 : Int, ∃ s25 : Slc, rowAt w19.drew ⟨r6, 0, none⟩ 0 [(.int .i64 n22), (.int .i64 n23), (.int .i64 n24), (Slc.v s25)] /\
  aH w19.drew (.cells ⟨[(.int .i64 n22), (.int .i64 n23), (.int .i64 n24), (Slc.v s25)]⟩ 80) fun r26 w27 =>
  (∃ s28, w27.cell? (a20.add 1) = some (Slc.v s28) /\
  (Slc.v s28) = (Slc.v s21)) /\
  aK 4 80 [(.int .i64 (0 : Int)), (.int .i64 (0 : Int)), (.int .i64 (0 : Int)), (Slc.v ⟨none, 0, 0⟩)] w27 s21 (.slc (⟨(some ⟨r26, 0, none⟩), 1, 1⟩ : Slc)) fun s29 w30 =>
  needSome t1 fun a31 =>
  az w30 (a31.add 1) 1 /\ ∀ w32, w32 = w30.setCell (a31.add 1) (Slc.v s29) ->
  needSome t1 fun a33 =>
  ∃ n34, w32.cell? (a33.add 2) = some (.int .i64 n34) /\
  inR .i64 (n34 + (1 : Int)) /\
  needSome t1 fun a35 =>
  az w32 (a35.add 2) 1 /\ ∀ w36, w36 = w32.setCell (a35.add 2) (.int .i64 (n34 + (1 : Int))) ->
  ∃ n37, w36.cell? ⟨r6, 0, none⟩ = some (.int .i64 n37) /\
  K (.tuple ⟨[(.int .i64 n37), .nilIface]⟩) w36)
theorem we (t1 : Option Addr) (m2 : Int) (m3 : Int) (m4 : Int) (m5 : Slc) {w : World} {R : Ending -> World -> Prop} (h : uw t1 m2 m3 m4 m5 w fun v w' => R (.returned v) w') : Calls Tryz.prog ib ⟨[(.pointer t1), (.agg ⟨[(.int .i64 m2), (.int .i64 m3), (.int .i64 m4), (Slc.v m5)]⟩)]⟩ w R :=
  ab (ann := .none) ah mixed Tryz.func59 (Eq.mp (by kernel_rfl) h)
def oV (m1 : Int) (m2 : Int) (m3 : Int) (m4 : Slc) (cap5 : Option Addr) (w : World) (K : Value -> World -> Prop) : Prop :=
  aH w (.cells ⟨[(.int .i64 m1), (.int .i64 m2), (.int .i64 m3), (Slc.v m4)]⟩ 80) fun r6 w7 =>
  ∃ n8, w7.cell? ⟨r6, 0, none⟩ = some (.int .i64 n8) /\
  needSome cap5 fun a9 =>
  ∃ n10, w7.cell? a9 = some (.int .i64 n10) /\
  K (.bool (decide (n8 = n10))) w7
theorem rL (m1 : Int) (m2 : Int) (m3 : Int) (m4 : Slc) (cap5 : Option Addr) {w : World} {R : Ending -> World -> Prop} (h : oV m1 m2 m3 m4 cap5 w fun v w' => R (.returned v) w') : Calls Tryz.prog fx ⟨[(.agg ⟨[(.int .i64 m1), (.int .i64 m2), (.int .i64 m3), (Slc.v m4)]⟩), (.pointer cap5)]⟩ w R :=
  ab (ann := .none) ah mixed Tryz.func98 (Eq.mp (by kernel_rfl) h)
def cH (s1 : Slc) (c2 : Option Addr) (w : World) (K : Value -> World -> Prop) : Prop :=
  ∃ (I3 : (Int) -> World -> Prop) (mu4 : (Int) -> World -> Nat), I3 ((0 : Int)) w /\ (
  ∀ i5 : Int, ∀ w6 : World, I3 i5 w6 -> ∀ _ _ _ _ _ _ _ _ _ _ _ _ : Value,
  BIf (decide (i5 < (s1.l : Int))) (
  needSome s1.p fun a19 =>
  0 <= i5 /\ i5 < (s1.l : Int) /\
  ∃ n20 : Int, ∃ n21 : Int, ∃ n22 : Int, ∃ s23 : Slc, rowAt w6 (Addr.add a19 ((Int.toNat i5) * 4)) 0 [(.int .i64 n20), (.int .i64 n21), (.int .i64 n22), (Slc.v s23)] /\
  Calls Tryz.prog fx ⟨[(.agg ⟨[(.int .i64 n20), (.int .i64 n21), (.int .i64 n22), (Slc.v s23)]⟩), (.pointer c2)]⟩ w6 fun e24 w25 =>
  ∃ b26, e24 = .returned (.bool b26) /\
  BIf b26 (
  K (.int .i64 i5) w25) (
  inR .i64 (i5 + (1 : Int)) /\
  (I3 ((i5 + (1 : Int))) w25 /\ mu4 ((i5 + (1 : Int))) w25 < mu4 i5 w6))) (
  K (.int .i64 (-1 : Int)) w6))
theorem fb (s1 : Slc) (c2 : Option Addr) {w : World} {R : Ending -> World -> Prop} (h : cH s1 c2 w fun v w' => R (.returned v) w') : Calls Tryz.prog bd ⟨[(Slc.v s1), (.func (.func 98) ⟨[]⟩ ⟨[(.pointer c2)]⟩)]⟩ w R :=
  ab (ann := (.two .none (.two (.two .none (.one (.loop [(8, (Sh.int .i64))] ([4, 5] ++ List.range' 9 10) .none))) .none))) ah mixed Tryz.func63 (Eq.mp (by kernel_rfl) h)
def rM (t1 : Option Addr) (number2 : Int) (w : World) (K : Value -> World -> Prop) : Prop :=
  aH w (.cells ⟨[(.int .i64 number2)]⟩ 3) fun r3 w4 =>
  needSome t1 fun a5 =>
  ∃ s6, w4.cell? (a5.add 1) = some (Slc.v s6) /\
  Calls Tryz.prog bd ⟨[(Slc.v s6), (.func (.func 98) ⟨[]⟩ ⟨[(.pointer (some ⟨r3, 0, none⟩))]⟩)]⟩ w4 fun e7 w8 =>
  ∃ n9, e7 = .returned (.int .i64 n9) /\
  K (.int .i64 n9) w8
theorem uV (t1 : Option Addr) (number2 : Int) {w : World} {R : Ending -> World -> Prop} (h : rM t1 number2 w fun v w' => R (.returned v) w') : Calls Tryz.prog fg ⟨[(.pointer t1), (.int .i64 number2)]⟩ w R :=
  ab (ann := .none) ah mixed Tryz.func60 (Eq.mp (by kernel_rfl) h)
def iQ (s1 : Slc) (i2 : Int) (j3 : Int) (w : World) (K : Value -> World -> Prop) : Prop :=
  0 <= i2 /\ i2 <= j3 /\ j3 <= (s1.l : Int) /\ (s1.l : Int) <= (s1.c : Int) /\
  BIf (decide (i2 = j3)) (
  K (Slc.v s1) w) (
  0 <= (0 : Int) /\ (0 : Int) <= i2 /\ i2 <= (s1.c : Int) /\ (s1.c : Int) <= (s1.c : Int) /\
  0 <= j3 /\ j3 <= (s1.l : Int) /\ (s1.l : Int) <= (s1.c : Int) /\ (s1.c : Int) <= (s1.c : Int) /\
  aK 4 80 [(.int .i64 (0 : Int)), (.int .i64 (0 : Int)), (.int .i64 (0 : Int)), (Slc.v ⟨none, 0, 0⟩)] w.drew (Slc.sub s1 4 0 (Int.toNat i2) s1.c) (.slc (Slc.sub s1 4 (Int.toNat j3) s1.l s1.c)) fun s7 w8 =>
  0 <= (s7.l : Int) /\ (s7.l : Int) <= (s1.l : Int) /\ (s1.l : Int) <= (s7.c : Int) /\ (s7.c : Int) <= (s7.c : Int) /\
  jW [(.int .i64 (0 : Int)), (.int .i64 (0 : Int)), (.int .i64 (0 : Int)), (Slc.v ⟨none, 0, 0⟩)] w8 (Slc.sub s7 4 s7.l s1.l s7.c) fun w10 =>
  K (Slc.v s7) w10)
theorem lH (s1 : Slc) (i2 : Int) (j3 : Int) {w : World} {R : Ending -> World -> Prop} (h : iQ s1 i2 j3 w fun v w' => R (.returned v) w') : Calls Tryz.prog dM ⟨[(Slc.v s1), (.int .i64 i2), (.int .i64 j3)]⟩ w R :=
  ab (ann := .none) ah mixed Tryz.func99 (Eq.mp (by kernel_rfl) h)
def rN (t1 : Option Addr) (i2 : Int) (w : World) (K : Value -> World -> Prop) : Prop :=
  aH w (.cells ⟨[(.int .i64 (0 : Int)), (.int .i64 (0 : Int)), (.int .i64 (0 : Int)), (Slc.v ⟨none, 0, 0⟩)]⟩ 80) fun r3 w4 =>
  needSome t1 fun a5 =>
  ∃ s6, w4.cell? (a5.add 1) = some (Slc.v s6) /\
  needSome s6.p fun a7 =>
  0 <= i2 /\ i2 < (s6.l : Int) /\
  ∃ n8 : Int, ∃ n9 : Int, ∃ n10 : Int, ∃ s11 : Slc, rowAt w4 (Addr.add a7 ((Int.toNat i2) * 4)) 0 [(.int .i64 n8), (.int .i64 n9), (.int .i64 n10), (Slc.v s11)] /\
  aH w4 (.cells ⟨[(.int .i64 (0 : Int)), (.int .i64 (0 : Int)), (.int .i64 (0 : Int)), (Slc.v ⟨none, 0, 0⟩)]⟩ 80) fun r12 w13 =>
  az w13 ⟨r12, 0, none⟩ 4 /\ ∀ w14, w14 = setCells w13 ⟨r12, 0, none⟩ 0 [(.int .i64 n8), (.int .i64 n9), (.int .i64 n10), (Slc.v s11)] ->
  needSome t1 fun a15 =>
  ∃ s16, w14.cell? (a15.add 1) = some (Slc.v s16) /\
  inR .i64 (i2 + (1 : Int)) /\
  Calls Tryz.prog dM ⟨[(Slc.v s16), (.int .i64 i2), (.int .i64 (i2 + (1 : Int)))]⟩ w14 fun e17 w18 =>
  ∃ s19, e17 = .returned (Slc.v s19) /\
  needSome t1 fun a20 =>
  az w18 (a20.add 1) 1 /\ ∀ w21, w21 = w18.setCell (a20.add 1) (Slc.v s19) ->
  ∃ n22 : Int, ∃ n23 : Int, ∃ n24 : Int, ∃ s25 : Slc, rowAt w21 ⟨r12, 0, none⟩ 0 [(.int .i64 n22), (.int .i64 n23), (.int .i64 n24), (Slc.v s25)] /\
  az w21 ⟨r3, 0, none⟩ 4 /\ ∀ w26, w26 = setCells w21 ⟨r3, 0, none⟩ 0 [(.int .i64 n22), (.int .i64 n23), (.int .i64 n24), (Slc.v s25)] ->
  ∃ n27 : Int, ∃ n28 : Int, ∃ n29 : Int, ∃ s30 : Slc, rowAt w26 ⟨r3, 0, none⟩ 0 [(.int .i64 n27), (.int .i64 n28), (.int .i64 n29), (Slc.v s30)] /\
  K (.agg ⟨[(.int .i64 n27), (.int .i64 n28), (.int .i64 n29), (Slc.v s30)]⟩) w26
theorem uW (t1 : Option Addr) (i2 : Int) {w : World} {R : Ending -> World -> Prop} (h : rN t1 i2 w fun v w' => R (.returned v) w') : Calls Tryz.prog gu ⟨[(.pointer t1), (.int .i64 i2)]⟩ w R :=
  ab (ann := .none) ah mixed Tryz.func62 (Eq.mp (by kernel_rfl) h)
def rO (t1 : Option Addr) (from2 : Int) (to3 : Int) (b4 : Slc) (w : World) (K : Value -> World -> Prop) : Prop :=
  ∃ J5 : (Bool) -> World -> Prop,
  (
  Calls Tryz.prog eu ⟨[(.pointer t1), (.int .i64 from2)]⟩ w fun e6 w7 =>
  ∃ b8, e6 = .returned (.bool b8) /\
  BIf (!b8) (
  J5 (true) w7) (
  Calls Tryz.prog eu ⟨[(.pointer t1), (.int .i64 to3)]⟩ w7 fun e9 w10 =>
  ∃ b11, e9 = .returned (.bool b11) /\
  J5 ((!b11)) w10)) /\ (
  ∀ x12 : Bool, ∀ w13 : World, J5 x12 w13 -> ∀ _ _ _ _ _ _ _ _ _ _ : Value,
  BIf x12 (
  ∃ v24, w13.drew.cell? ⟨aD, 0, none⟩ = some v24 /\
  K (.tuple ⟨[(.int .i64 (0 : Int)), v24]⟩) w13.drew) (
  BIf (decide ((4096 : Int) < (b4.l : Int))) (
  ∃ v25, w13.drew.cell? ⟨bw, 0, none⟩ = some v25 /\
  K (.tuple ⟨[(.int .i64 (0 : Int)), v25]⟩) w13.drew) (
  needSome t1 fun a26 =>
  ∃ s27, w13.cell? a26 = some (Slc.v s27) /\
  needSome s27.p fun a28 =>
  0 <= from2 /\ from2 < (s27.l : Int) /\
  ∃ b29, w13.cell? (Addr.add a28 ((Int.toNat from2) * 2)) = some (.bool b29) /\
  BIf (!b29) (
  ∃ v30, w13.drew.cell? ⟨dP, 0, none⟩ = some v30 /\
  K (.tuple ⟨[(.int .i64 (0 : Int)), v30]⟩) w13.drew) (
  Calls Tryz.prog ib ⟨[(.pointer t1), (.agg ⟨[(.int .i64 (0 : Int)), (.int .i64 from2), (.int .i64 to3), (Slc.v b4)]⟩)]⟩ w13 fun e31 w32 =>
  ∃ n33 : Int, ∃ e34, e31 = .returned (.tuple ⟨[(.int .i64 n33), e34]⟩) /\
  K (.tuple ⟨[(.int .i64 n33), e34]⟩) w32))))
theorem uX (t1 : Option Addr) (from2 : Int) (to3 : Int) (b4 : Slc) {w : World} {R : Ending -> World -> Prop} (h : rO t1 from2 to3 b4 w fun v w' => R (.returned v) w') : Calls Tryz.prog dE ⟨[(.pointer t1), (.int .i64 from2), (.int .i64 to3), (Slc.v b4)]⟩ w R :=
  ab (ann := (.two .none (.two (.one (.cut [(10, Sh.bool)] (List.range' 11 10) .none .none)) .none))) ah mixed Tryz.func25 (Eq.mp (by kernel_rfl) h)
def nK (t1 : Option Addr) (number2 : Int) (w : World) (K : Value -> World -> Prop) : Prop :=
  aH w (.cells ⟨[(.int .i64 (0 : Int)), (.int .i64 (0 : Int)), (.int .i64 (0 : Int)), (Slc.v ⟨none, 0, 0⟩)]⟩ 80) fun r3 w4 =>
  Calls Tryz.prog fg ⟨[(.pointer t1), (.int .i64 number2)]⟩ w4 fun e5 w6 =>
  ∃ n7, e5 = .returned (.int .i64 n7) /\
  BIf (decide (n7 < (0 : Int))) (
  ∃ v8, w6.drew.cell? ⟨fa, 0, none⟩ = some v8 /\
  az w6.drew ⟨r3, 0, none⟩ 4 /\ ∀ w9, w9 = setCells w6.drew ⟨r3, 0, none⟩ 0 [(.int .i64 (0 : Int)), (.int .i64 (0 : Int)), (.int .i64 (0 : Int)), (Slc.v ⟨none, 0, 0⟩)] ->
  (∃ v10, w9.cell? ⟨fa, 0, none⟩ = some v10 /\
  v10 = v8) /\
  ∃ n11 : Int, ∃ n12 : Int, ∃ n13 : Int, ∃ s14 : Slc, rowAt w9 ⟨r3, 0, none⟩ 0 [(.int .i64 n11), (.int .i64 n12), (.int .i64 n13), (Slc.v s14)] /\
  K (.tuple ⟨[(.agg ⟨[(.int .i64 n11), (.int .i64 n12), (.int .i64 n13), (Slc.v s14)]⟩), v8]⟩) w9) (
  needSome t1 fun a15 =>
  ∃ s16, w6.drew.cell? (a15.add 1) = some (Slc.v s16) /\
  needSome s16.p fun a17 =>
  0 <= n7 /\ n7 < (s16.l : Int) /\
  ∃ n18, w6.drew.cell? ((Addr.add a17 ((Int.toNat n7) * 4)).add 1) = some (.int .i64 n18) /\
  needSome t1 fun a19 =>
  ∃ s20, w6.drew.cell? (a19.add 1) = some (Slc.v s20) /\
  needSome s20.p fun a21 =>
  0 <= n7 /\ n7 < (s20.l : Int) /\
  ∃ n22, w6.drew.cell? ((Addr.add a21 ((Int.toNat n7) * 4)).add 2) = some (.int .i64 n22) /\
  Calls Tryz.prog fY ⟨[(.pointer t1), (.int .i64 n18), (.int .i64 n22)]⟩ w6.drew fun e23 w24 =>
  ∃ b25, e23 = .returned (.bool b25) /\
  BIf (!b25) (
  ∃ v26, w24.drew.cell? ⟨dP, 0, none⟩ = some v26 /\
  az w24.drew ⟨r3, 0, none⟩ 4 /\ ∀ w27, w27 = setCells w24.drew ⟨r3, 0, none⟩ 0 [(.int .i64 (0 : Int)), (.int .i64 (0 : Int)), (.int .i64 (0 : Int)), (Slc.v ⟨none, 0, 0⟩)] ->
  (∃ v28, w27.cell? ⟨dP, 0, none⟩ = some v28 /\
  v28 = v26) /\
  ∃ n29 : Int, ∃ n30 : Int, ∃ n31 : Int, ∃ s32 : Slc, rowAt w27 ⟨r3, 0, none⟩ 0 [(.int .i64 n29), (.int .i64 n30), (.int .i64 n31), (Slc.v s32)] /\
  K (.tuple ⟨[(.agg ⟨[(.int .i64 n29), (.int .i64 n30), (.int .i64 n31), (Slc.v s32)]⟩), v26]⟩) w27) (
  Calls Tryz.prog gu ⟨[(.pointer t1), (.int .i64 n7)]⟩ w24 fun e33 w34 =>
  ∃ x35 : Int, ∃ x36 : Int, ∃ x37 : Int, ∃ x38, e33 = .returned (.agg ⟨[(.int .i64 x35), (.int .i64 x36), (.int .i64 x37), (Slc.v x38)]⟩) /\
  az w34 ⟨r3, 0, none⟩ 4 /\ ∀ w39, w39 = setCells w34 ⟨r3, 0, none⟩ 0 [(.int .i64 x35), (.int .i64 x36), (.int .i64 x37), (Slc.v x38)] ->
  ∃ n40 : Int, ∃ n41 : Int, ∃ n42 : Int, ∃ s43 : Slc, rowAt w39 ⟨r3, 0, none⟩ 0 [(.int .i64 n40), (.int .i64 n41), (.int .i64 n42), (Slc.v s43)] /\
  K (.tuple ⟨[(.agg ⟨[(.int .i64 n40), (.int .i64 n41), (.int .i64 n42), (Slc.v s43)]⟩), .nilIface]⟩) w39))
theorem qJ (t1 : Option Addr) (number2 : Int) {w : World} {R : Ending -> World -> Prop} (h : nK t1 number2 w fun v w' => R (.returned v) w') : Calls Tryz.prog eO ⟨[(.pointer t1), (.int .i64 number2)]⟩ w R :=
  ab (ann := .none) ah mixed Tryz.func26 (Eq.mp (by kernel_rfl) h)
def rP (t1 : Option Addr) (number2 : Int) (w : World) (K : Value -> World -> Prop) : Prop :=
  Calls Tryz.prog fg ⟨[(.pointer t1), (.int .i64 number2)]⟩ w fun e3 w4 =>
  ∃ n5, e3 = .returned (.int .i64 n5) /\
  BIf (decide (n5 < (0 : Int))) (
  ∃ v6, w4.cell? ⟨fa, 0, none⟩ = some v6 /\
  K v6 w4) (
  Calls Tryz.prog gu ⟨[(.pointer t1), (.int .i64 n5)]⟩ w4 fun e7 w8 =>
  ∃ x9 : Int, ∃ x10 : Int, ∃ x11 : Int, ∃ x12, e7 = .returned (.agg ⟨[(.int .i64 x9), (.int .i64 x10), (.int .i64 x11), (Slc.v x12)]⟩) /\
  K .nilIface w8)
theorem uY (t1 : Option Addr) (number2 : Int) {w : World} {R : Ending -> World -> Prop} (h : rP t1 number2 w fun v w' => R (.returned v) w') : Calls Tryz.prog jw ⟨[(.pointer t1), (.int .i64 number2)]⟩ w R :=
  ab (ann := .none) ah mixed Tryz.func30 (Eq.mp (by kernel_rfl) h)
def oW (t1 : Option Addr) (number2 : Int) (w : World) (K : Value -> World -> Prop) : Prop :=
  Calls Tryz.prog fg ⟨[(.pointer t1), (.int .i64 number2)]⟩ w fun e3 w4 =>
  ∃ n5, e3 = .returned (.int .i64 n5) /\
  BIf (decide (n5 < (0 : Int))) (
  ∃ v6, w4.drew.cell? ⟨fa, 0, none⟩ = some v6 /\
  K (.tuple ⟨[(.int .i64 (0 : Int)), v6]⟩) w4.drew) (
  needSome t1 fun a7 =>
  ∃ s8, w4.cell? (a7.add 1) = some (Slc.v s8) /\
  needSome s8.p fun a9 =>
  0 <= n5 /\ n5 < (s8.l : Int) /\
  ∃ n10 : Int, ∃ n11 : Int, ∃ n12 : Int, ∃ s13 : Slc, rowAt w4 (Addr.add a9 ((Int.toNat n5) * 4)) 0 [(.int .i64 n10), (.int .i64 n11), (.int .i64 n12), (Slc.v s13)] /\
  Calls Tryz.prog ib ⟨[(.pointer t1), (.agg ⟨[(.int .i64 n10), (.int .i64 n11), (.int .i64 n12), (Slc.v s13)]⟩)]⟩ w4 fun e14 w15 =>
  ∃ n16 : Int, ∃ e17, e14 = .returned (.tuple ⟨[(.int .i64 n16), e17]⟩) /\
  K (.tuple ⟨[(.int .i64 n16), e17]⟩) w15)
theorem rQ (t1 : Option Addr) (number2 : Int) {w : World} {R : Ending -> World -> Prop} (h : oW t1 number2 w fun v w' => R (.returned v) w') : Calls Tryz.prog hZ ⟨[(.pointer t1), (.int .i64 number2)]⟩ w R :=
  ab (ann := .none) ah mixed Tryz.func31 (Eq.mp (by kernel_rfl) h)
def nL (m1 : Int) (m2 : Int) (m3 : Int) (m4 : Slc) (cap5 : Option Addr) (cap6 : Option Addr) (w : World) (K : Value -> World -> Prop) : Prop :=
  aH w (.cells ⟨[(.int .i64 m1), (.int .i64 m2), (.int .i64 m3), (Slc.v m4)]⟩ 80) fun r7 w8 =>
  ∃ n9, w8.cell? ⟨r7, 2, none⟩ = some (.int .i64 n9) /\
  needSome cap5 fun a10 =>
  ∃ n11, w8.cell? a10 = some (.int .i64 n11) /\
  BIf (decide (n9 = n11)) (
  needSome cap6 fun a12 =>
  ∃ p13 : Option Addr, w8.cell? a12 = some (.pointer p13) /\
  ∃ n14, w8.cell? ⟨r7, 1, none⟩ = some (.int .i64 n14) /\
  ∃ n15, w8.cell? ⟨r7, 2, none⟩ = some (.int .i64 n15) /\
  Calls Tryz.prog fY ⟨[(.pointer p13), (.int .i64 n14), (.int .i64 n15)]⟩ w8 fun e16 w17 =>
  ∃ b18, e16 = .returned (.bool b18) /\
  K (.bool b18) w17) (
  K (.bool false) w8)
theorem qK (m1 : Int) (m2 : Int) (m3 : Int) (m4 : Slc) (cap5 : Option Addr) (cap6 : Option Addr) {w : World} {R : Ending -> World -> Prop} (h : nL m1 m2 m3 m4 cap5 cap6 w fun v w' => R (.returned v) w') : Calls Tryz.prog eS ⟨[(.agg ⟨[(.int .i64 m1), (.int .i64 m2), (.int .i64 m3), (Slc.v m4)]⟩), (.pointer cap5), (.pointer cap6)]⟩ w R :=
  ab (ann := .none) ah mixed Tryz.func64 (Eq.mp (by kernel_rfl) h)
def cE (s1 : Slc) (c2 : Option Addr) (c3 : Option Addr) (w : World) (K : Value -> World -> Prop) : Prop :=
  ∃ (I4 : (Int) -> World -> Prop) (mu5 : (Int) -> World -> Nat), I4 ((0 : Int)) w /\ (
  ∀ i6 : Int, ∀ w7 : World, I4 i6 w7 -> ∀ _ _ _ _ _ _ _ _ _ _ _ _ : Value,
  BIf (decide (i6 < (s1.l : Int))) (
  needSome s1.p fun a20 =>
  0 <= i6 /\ i6 < (s1.l : Int) /\
  ∃ n21 : Int, ∃ n22 : Int, ∃ n23 : Int, ∃ s24 : Slc, rowAt w7 (Addr.add a20 ((Int.toNat i6) * 4)) 0 [(.int .i64 n21), (.int .i64 n22), (.int .i64 n23), (Slc.v s24)] /\
  Calls Tryz.prog eS ⟨[(.agg ⟨[(.int .i64 n21), (.int .i64 n22), (.int .i64 n23), (Slc.v s24)]⟩), (.pointer c2), (.pointer c3)]⟩ w7 fun e25 w26 =>
  ∃ b27, e25 = .returned (.bool b27) /\
  BIf b27 (
  K (.int .i64 i6) w26) (
  inR .i64 (i6 + (1 : Int)) /\
  (I4 ((i6 + (1 : Int))) w26 /\ mu5 ((i6 + (1 : Int))) w26 < mu5 i6 w7))) (
  K (.int .i64 (-1 : Int)) w7))
theorem eD (s1 : Slc) (c2 : Option Addr) (c3 : Option Addr) {w : World} {R : Ending -> World -> Prop} (h : cE s1 c2 c3 w fun v w' => R (.returned v) w') : Calls Tryz.prog bd ⟨[(Slc.v s1), (.func (.func 64) ⟨[]⟩ ⟨[(.pointer c2), (.pointer c3)]⟩)]⟩ w R :=
  ab (ann := (.two .none (.two (.two .none (.one (.loop [(8, (Sh.int .i64))] ([4, 5] ++ List.range' 9 10) .none))) .none))) ah mixed Tryz.func63 (Eq.mp (by kernel_rfl) h)
def qc (t1 : Option Addr) (to2 : Int) (w : World) (K : Value -> World -> Prop) : Prop :=
  aH w (.cells ⟨[(.pointer t1)]⟩ 70) fun r3 w4 =>
  aH w4 (.cells ⟨[(.int .i64 to2)]⟩ 3) fun r5 w6 =>
  ∃ p7 : Option Addr, w6.cell? ⟨r3, 0, none⟩ = some (.pointer p7) /\
  needSome p7 fun a8 =>
  ∃ s9, w6.cell? (a8.add 1) = some (Slc.v s9) /\
  Calls Tryz.prog bd ⟨[(Slc.v s9), (.func (.func 64) ⟨[]⟩ ⟨[(.pointer (some ⟨r5, 0, none⟩)), (.pointer (some ⟨r3, 0, none⟩))]⟩)]⟩ w6 fun e10 w11 =>
  ∃ n12, e10 = .returned (.int .i64 n12) /\
  BIf (decide (n12 < (0 : Int))) (
  K (.int .i64 (-1 : Int)) w11) (
  ∃ p13 : Option Addr, w11.cell? ⟨r3, 0, none⟩ = some (.pointer p13) /\
  needSome p13 fun a14 =>
  ∃ s15, w11.cell? (a14.add 1) = some (Slc.v s15) /\
  needSome s15.p fun a16 =>
  0 <= n12 /\ n12 < (s15.l : Int) /\
  ∃ n17, w11.cell? (Addr.add a16 ((Int.toNat n12) * 4)) = some (.int .i64 n17) /\
  K (.int .i64 n17) w11)
theorem tx (t1 : Option Addr) (to2 : Int) {w : World} {R : Ending -> World -> Prop} (h : qc t1 to2 w fun v w' => R (.returned v) w') : Calls Tryz.prog fX ⟨[(.pointer t1), (.int .i64 to2)]⟩ w R :=
  ab (ann := .none) ah mixed Tryz.func27 (Eq.mp (by kernel_rfl) h)
end Go.D

