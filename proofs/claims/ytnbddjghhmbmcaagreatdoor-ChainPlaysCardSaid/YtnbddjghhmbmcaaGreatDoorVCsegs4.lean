/-
  WHAT IS PROVED: verification conditions of functions of this program, each with its soundness. No further conditions.
-/
import Derived.Test.YtnbddjghhmbmcaaGreatDoorBase
set_option linter.unusedSimpArgs false
set_option maxRecDepth 100000
set_option linter.unusedVariables false
namespace Go.D
open Go Go.Proofs
def mC (g1 : Option Addr) (cap2 : Option Addr) (w : World) (K : Value -> World -> Prop) : Prop :=
  needSome g1 fun a3 =>
  ∃ n4, w.drew.cell? (a3.add 1) = some (.int .i64 n4) /\
  needSome cap2 fun a5 =>
  ∃ n6, w.drew.cell? a5 = some (.int .i64 n6) /\
  K (.bool (decide (n4 = n6))) w.drew
theorem qs (g1 : Option Addr) (cap2 : Option Addr) {w : World} {R : Ending -> World -> Prop} (h : mC g1 cap2 w fun v w' => R (.returned v) w') : Calls Tryz.prog jW ⟨[(.pointer g1), (.pointer cap2)]⟩ w R :=
  ab (ann := .none) ag mixed Tryz.func142 (Eq.mp (by kernel_rfl) h)
def cz (s1 : Slc) (c2 : Option Addr) (w : World) (K : Value -> World -> Prop) : Prop :=
  ∃ (I3 : (Int) -> World -> Prop) (mu4 : (Int) -> World -> Nat), I3 ((0 : Int)) w /\ (
  ∀ i5 : Int, ∀ w6 : World, I3 i5 w6 -> ∀ _ _ _ _ _ _ _ _ _ _ _ _ : Value,
  BIf (decide (i5 < (s1.l : Int))) (
  needSome s1.p fun a19 =>
  0 <= i5 /\ i5 < (s1.l : Int) /\
  ∃ p20 : Option Addr, w6.cell? (Addr.add a19 ((Int.toNat i5) * 1)) = some (.pointer p20) /\
  Calls Tryz.prog jW ⟨[(.pointer p20), (.pointer c2)]⟩ w6 fun e21 w22 =>
  ∃ b23, e21 = .returned (.bool b23) /\
  BIf b23 (
  K (.int .i64 i5) w22) (
  inR .i64 (i5 + 1) /\
  (I3 ((i5 + 1)) w22 /\ mu4 ((i5 + 1)) w22 < mu4 i5 w6))) (
  K (.int .i64 (-1 : Int)) w6))
theorem eV (s1 : Slc) (c2 : Option Addr) {w : World} {R : Ending -> World -> Prop} (h : cz s1 c2 w fun v w' => R (.returned v) w') : Calls Tryz.prog cj ⟨[s1.v, (.func (.func 142) ⟨[]⟩ ⟨[(.pointer c2)]⟩)]⟩ w R :=
  ab (ann := (.two .none (.two (.two .none (.one (.loop [(8, (Sh.int .i64))] ([4, 5] ++ List.range' 9 10) .none))) .none))) ag mixed Tryz.func141 (Eq.mp (by kernel_rfl) h)
def pE (s1 : Option Addr) (number2 : Int) (w : World) (K : Value -> World -> Prop) : Prop :=
  aA w (.cells ⟨[(.int .i64 number2)]⟩ 3) fun r3 w4 =>
  needSome s1 fun a5 =>
  ∃ s6, w4.cell? (a5.add 1) = some (Slc.v s6) /\
  Calls Tryz.prog cj ⟨[s6.v, (.func (.func 142) ⟨[]⟩ ⟨[(.pointer (some ⟨r3, 0, none⟩))]⟩)]⟩ w4 fun e7 w8 =>
  ∃ n9, e7 = .returned (.int .i64 n9) /\
  K (.int .i64 n9) w8
theorem rW (s1 : Option Addr) (number2 : Int) {w : World} {R : Ending -> World -> Prop} (h : pE s1 number2 w fun v w' => R (.returned v) w') : Calls Tryz.prog fJ ⟨[(.pointer s1), (.int .i64 number2)]⟩ w R :=
  ab (ann := .none) ag mixed Tryz.func109 (Eq.mp (by kernel_rfl) h)
def jz (s1 : Slc) (i2 : Int) (j3 : Int) (w : World) (K : Value -> World -> Prop) : Prop :=
  0 <= i2 /\ i2 <= j3 /\ j3 <= (s1.l : Int) /\ (s1.l : Int) <= (s1.c : Int) /\
  BIf (decide (i2 = j3)) (
  K s1.v w) (
  0 <= (0 : Int) /\ (0 : Int) <= i2 /\ i2 <= (s1.c : Int) /\ (s1.c : Int) <= (s1.c : Int) /\
  0 <= j3 /\ j3 <= (s1.l : Int) /\ (s1.l : Int) <= (s1.c : Int) /\ (s1.c : Int) <= (s1.c : Int) /\
  ak 1 177 [(.pointer none)] w.drew (Slc.sub s1 1 0 (Int.toNat i2) s1.c) (.slc (Slc.sub s1 1 (Int.toNat j3) s1.l s1.c)) fun s7 w8 =>
  0 <= (s7.l : Int) /\ (s7.l : Int) <= (s1.l : Int) /\ (s1.l : Int) <= (s7.c : Int) /\ (s7.c : Int) <= (s7.c : Int) /\
  ly [(.pointer none)] w8 (Slc.sub s7 1 s7.l s1.l s7.c) fun w10 =>
  K (Slc.v s7) w10)
theorem nk (s1 : Slc) (i2 : Int) (j3 : Int) {w : World} {R : Ending -> World -> Prop} (h : jz s1 i2 j3 w fun v w' => R (.returned v) w') : Calls Tryz.prog eH ⟨[s1.v, (.int .i64 i2), (.int .i64 j3)]⟩ w R :=
  ab (ann := .none) ag mixed Tryz.func133 (Eq.mp (by kernel_rfl) h)
def pF (s1 : Option Addr) (number2 : Int) (w : World) (K : Value -> World -> Prop) : Prop :=
  Calls Tryz.prog fJ ⟨[(.pointer s1), (.int .i64 number2)]⟩ w fun e3 w4 =>
  ∃ n5, e3 = .returned (.int .i64 n5) /\
  BIf (decide (n5 < 0)) (
  ∃ v6, w4.cell? ⟨lH, 0, none⟩ = some v6 /\
  K v6 w4) (
  needSome s1 fun a7 =>
  ∃ s8, w4.cell? (a7.add 1) = some (Slc.v s8) /\
  inR .i64 ((s8.l : Int) - (1 : Int)) /\
  BIf (decide (n5 = ((s8.l : Int) - (1 : Int)))) (
  ∃ v9, w4.cell? ⟨iR, 0, none⟩ = some v9 /\
  K v9 w4) (
  needSome s1 fun a10 =>
  ∃ s11, w4.drew.cell? (a10.add 1) = some (Slc.v s11) /\
  needSome s11.p fun a12 =>
  0 <= n5 /\ n5 < (s11.l : Int) /\
  ∃ p13 : Option Addr, w4.drew.cell? (Addr.add a12 ((Int.toNat n5) * 1)) = some (.pointer p13) /\
  needSome p13 fun a14 =>
  ∃ n15, w4.drew.cell? a14 = some (.int .i64 n15) /\
  Calls Tryz.prog jf ⟨[(.int .i64 number2), (.int .u8 2)]⟩ w4.drew fun e16 w17 =>
  ∃ s18, e16 = .returned (Slc.v s18) /\
  (ckIx .i64 (w17.cell? a14) n15) /\
  (ckPx (w17.cell? (Addr.add a12 ((Int.toNat n5) * 1))) p13) /\
  (ckSx (w17.cell? (a10.add 1)) s11) /\
  Calls Tryz.prog dU ⟨[(.pointer s1), (.int .i64 n15), (.int .i64 0), s18.v]⟩ w17 fun e22 w23 =>
  ∃ e24, e22 = .returned e24 /\
  isI e24 /\
  BIf (!isNilI e24) (
  K e24 w23) (
  needSome s1 fun a25 =>
  ∃ s26, w23.cell? (a25.add 1) = some (Slc.v s26) /\
  inR .i64 (n5 + 1) /\
  Calls Tryz.prog eH ⟨[s26.v, (.int .i64 n5), (.int .i64 (n5 + 1))]⟩ w23 fun e27 w28 =>
  ∃ s29, e27 = .returned (Slc.v s29) /\
  needSome s1 fun a30 =>
  aw w28 (a30.add 1) 1 /\ ∀ w31, w31 = w28.setCell (a30.add 1) s29.v ->
  K .nilIface w31)))
theorem rX (s1 : Option Addr) (number2 : Int) {w : World} {R : Ending -> World -> Prop} (h : pF s1 number2 w fun v w' => R (.returned v) w') : Calls Tryz.prog iB ⟨[(.pointer s1), (.int .i64 number2)]⟩ w R :=
  ab (ann := .none) ag mixed Tryz.func92 (Eq.mp (by kernel_rfl) h)
end Go.D

