/-
  WHAT IS PROVED: verification conditions of functions of this program, each with its soundness. No further conditions.
-/
import Derived.Test.YtnbddjghhmbmcaaGreatDoorBase
set_option linter.unusedSimpArgs false
set_option maxRecDepth 100000
set_option linter.unusedVariables false
namespace Go.D
open Go Go.Proofs
def BG (n1 : Int) (w : World) (K : Value -> World -> Prop) : Prop :=
  BIf (decide (n1 < 1)) (
  ∃ v2, w.drew.cell? ⟨aD, 0, none⟩ = some v2 /\
  K (.tuple ⟨[(.pointer none), v2]⟩) w.drew) (
  BIf (decide (4096 < n1)) (
  ∃ v3, w.drew.cell? ⟨aD, 0, none⟩ = some v3 /\
  K (.tuple ⟨[(.pointer none), v3]⟩) w.drew) (
  inR .i64 (n1 * 64) /\
  0 <= (n1 * 64) /\ (n1 * 64) <= (n1 * 64) /\ (n1 * 64) <= 2 ^ 30 /\
  aA w (.cells ⟨bI (Int.toNat (n1 * 64)) [(.int .u8 0)]⟩ 5) fun r4 w5 =>
  aA w5 (.cells ⟨[(Slc.v (⟨(some ⟨r4, 0, none⟩), (Int.toNat (n1 * 64)), (Int.toNat (n1 * 64))⟩ : Slc)), (Slc.v ⟨none, 0, 0⟩), (.bool false), (.int .i64 0)]⟩ 134) fun r6 w7 =>
  K (.tuple ⟨[(.pointer (some ⟨r6, 0, none⟩)), .nilIface]⟩) w7))
theorem BH (n1 : Int) {w : World} {R : Ending -> World -> Prop} (h : BG n1 w fun v w' => R (.returned v) w') : Calls Tryz.prog mv ⟨[(.int .i64 n1)]⟩ w R :=
  ab (ann := .none) ag mixed Tryz.func44 (Eq.mp (by kernel_rfl) h)
def pw (d1 : Option Addr) (w : World) (K : Value -> World -> Prop) : Prop :=
  needSome d1 fun a2 =>
  ∃ s3, w.cell? a2 = some (Slc.v s3) /\
  0 <= (s3.l : Int) /\ 0 < (64 : Int) /\ inR .i64 (s3.l : Int) /\
  K (.int .i64 ((s3.l : Int) / (64 : Int))) w
theorem rO (d1 : Option Addr) {w : World} {R : Ending -> World -> Prop} (h : pw d1 w fun v w' => R (.returned v) w') : Calls Tryz.prog fL ⟨[(.pointer d1)]⟩ w R :=
  ab (ann := .none) ag mixed Tryz.func136 (Eq.mp (by kernel_rfl) h)
def px (d1 : Option Addr) (i2 : Int) (w : World) (K : Value -> World -> Prop) : Prop :=
  BIf (decide (0 <= i2)) (
  Calls Tryz.prog fL ⟨[(.pointer d1)]⟩ w fun e3 w4 =>
  ∃ n5, e3 = .returned (.int .i64 n5) /\
  K (.bool (decide (i2 < n5))) w4) (
  K (.bool false) w)
theorem rP (d1 : Option Addr) (i2 : Int) {w : World} {R : Ending -> World -> Prop} (h : px d1 i2 w fun v w' => R (.returned v) w') : Calls Tryz.prog fM ⟨[(.pointer d1), (.int .i64 i2)]⟩ w R :=
  ab (ann := .none) ag mixed Tryz.func155 (Eq.mp (by kernel_rfl) h)
def nI (d1 : Option Addr) (w : World) (K : Value -> World -> Prop) : Prop :=
  needSome d1 fun a2 =>
  ∃ b3, w.cell? (a2.add 2) = some (.bool b3) /\
  BIf (!b3) (
  K (.bool false) w) (
  needSome d1 fun a4 =>
  ∃ n5, w.cell? (a4.add 3) = some (.int .i64 n5) /\
  BIf (decide (n5 = 0)) (
  K (.bool true) w) (
  needSome d1 fun a6 =>
  ∃ n7, w.cell? (a6.add 3) = some (.int .i64 n7) /\
  inR .i64 (n7 - 1) /\
  needSome d1 fun a8 =>
  aw w (a8.add 3) 1 /\ ∀ w9, w9 = w.setCell (a8.add 3) (.int .i64 (n7 - 1)) ->
  K (.bool false) w9))
theorem rh (d1 : Option Addr) {w : World} {R : Ending -> World -> Prop} (h : nI d1 w fun v w' => R (.returned v) w') : Calls Tryz.prog eZ ⟨[(.pointer d1)]⟩ w R :=
  ab (ann := .none) ag mixed Tryz.func153 (Eq.mp (by kernel_rfl) h)
def mw (d1 : Option Addr) (i2 : Int) (b3 : Slc) (w : World) (K : Value -> World -> Prop) : Prop :=
  Calls Tryz.prog fM ⟨[(.pointer d1), (.int .i64 i2)]⟩ w fun e4 w5 =>
  ∃ b6, e4 = .returned (.bool b6) /\
  BIf (!b6) (
  ∃ v7, w5.cell? ⟨aD, 0, none⟩ = some v7 /\
  K v7 w5) (
  BIf (!decide ((b3.l : Int) = (64 : Int))) (
  ∃ v8, w5.cell? ⟨aH, 0, none⟩ = some v8 /\
  K v8 w5) (
  Calls Tryz.prog eZ ⟨[(.pointer d1)]⟩ w5 fun e9 w10 =>
  ∃ b11, e9 = .returned (.bool b11) /\
  BIf b11 (
  ∃ v12, w10.cell? ⟨dW, 0, none⟩ = some v12 /\
  K v12 w10) (
  needSome d1 fun a13 =>
  ∃ s14, w10.drew.cell? (a13.add 1) = some (Slc.v s14) /\
  Calls Tryz.prog aQ ⟨[b3.v]⟩ w10.drew fun e15 w16 =>
  ∃ s17, e15 = .returned (Slc.v s17) /\
  (ckSx (w16.cell? (a13.add 1)) s14) /\
  aA w16 (.cells ⟨[(.int .i64 i2), s17.v]⟩ 221) fun r19 w20 =>
  (ckSx (w20.cell? (a13.add 1)) s14) /\
  ak 2 221 [(.int .i64 0), (Slc.v ⟨none, 0, 0⟩)] w20 s14 (.slc (⟨(some ⟨r19, 0, none⟩), 1, 1⟩ : Slc)) fun s22 w23 =>
  needSome d1 fun a24 =>
  aw w23 (a24.add 1) 1 /\ ∀ w25, w25 = w23.setCell (a24.add 1) (Slc.v s22) ->
  K .nilIface w25)))
theorem qk (d1 : Option Addr) (i2 : Int) (b3 : Slc) {w : World} {R : Ending -> World -> Prop} (h : mw d1 i2 b3 w fun v w' => R (.returned v) w') : Calls Tryz.prog gu ⟨[(.pointer d1), (.int .i64 i2), b3.v]⟩ w R :=
  ab (ann := .none) ag mixed Tryz.func152 (Eq.mp (by kernel_rfl) h)
def ql (d1 : Option Addr) (w2 : Int) (w3 : Slc) (cut4 : Int) (w : World) (K : Value -> World -> Prop) : Prop :=
  aA w (.cells ⟨[(.int .i64 w2), w3.v]⟩ 221) fun r5 w6 =>
  needSome d1 fun a7 =>
  ∃ s8, w6.drew.cell? a7 = some (Slc.v s8) /\
  ∃ n9, w6.drew.cell? ⟨r5, 0, none⟩ = some (.int .i64 n9) /\
  inR .i64 (n9 * 64) /\
  0 <= (n9 * 64) /\ (n9 * 64) <= (s8.l : Int) /\ (s8.l : Int) <= (s8.c : Int) /\ (s8.c : Int) <= (s8.c : Int) /\
  ∃ s11, w6.drew.cell? ⟨r5, 1, none⟩ = some (Slc.v s11) /\
  0 <= (0 : Int) /\ (0 : Int) <= cut4 /\ cut4 <= (s11.c : Int) /\ (s11.c : Int) <= (s11.c : Int) /\
  copyS 1 w6.drew (Slc.sub s8 1 (Int.toNat (n9 * 64)) s8.l s8.c) (.slc (Slc.sub s11 1 0 (Int.toNat cut4) s11.c)) fun n13 w14 =>
  K (.tuple #[]) w14
theorem th (d1 : Option Addr) (w2 : Int) (w3 : Slc) (cut4 : Int) {w : World} {R : Ending -> World -> Prop} (h : ql d1 w2 w3 cut4 w fun v w' => R (.returned v) w') : Calls Tryz.prog jg ⟨[(.pointer d1), (.agg ⟨[(.int .i64 w2), w3.v]⟩), (.int .i64 cut4)]⟩ w R :=
  ab (ann := .none) ag mixed Tryz.func154 (Eq.mp (by kernel_rfl) h)
def my (d1 : Option Addr) (w : World) (K : Value -> World -> Prop) : Prop :=
  Calls Tryz.prog eZ ⟨[(.pointer d1)]⟩ w fun e2 w3 =>
  ∃ b4, e2 = .returned (.bool b4) /\
  BIf b4 (
  ∃ v5, w3.cell? ⟨dW, 0, none⟩ = some v5 /\
  K v5 w3) (
  needSome d1 fun a6 =>
  ∃ s7, w3.cell? (a6.add 1) = some (Slc.v s7) /\
  ∃ (I8 : (Int) -> World -> Prop) (mu9 : (Int) -> World -> Nat), I8 ((0 : Int)) w3 /\ (
  ∀ i10 : Int, ∀ w11 : World, I8 i10 w11 -> ∀ _ _ _ _ _ _ _ _ : Value,
  BIf (decide (i10 < (s7.l : Int))) (
  needSome s7.p fun a20 =>
  0 <= i10 /\ i10 < (s7.l : Int) /\
  ∃ n21 : Int, ∃ s22 : Slc, rowAt w11 (Addr.add a20 ((Int.toNat i10) * 2)) 0 [(.int .i64 n21), s22.v] /\
  aA w11 (.cells ⟨[(.int .i64 0), (Slc.v ⟨none, 0, 0⟩)]⟩ 221) fun r23 w24 =>
  aw w24 ⟨r23, 0, none⟩ 2 /\ ∀ w25, w25 = setCells w24 ⟨r23, 0, none⟩ 0 [(.int .i64 n21), s22.v] ->
  ∃ n26 : Int, ∃ s27 : Slc, rowAt w25 ⟨r23, 0, none⟩ 0 [(.int .i64 n26), s27.v] /\
  Calls Tryz.prog jg ⟨[(.pointer d1), (.agg ⟨[(.int .i64 n26), s27.v]⟩), (.int .i64 64)]⟩ w25 fun e28 w29 =>
  e28 = .returned (.tuple #[]) /\
  inR .i64 (i10 + 1) /\
  (I8 ((i10 + 1)) w29 /\ mu9 ((i10 + 1)) w29 < mu9 i10 w11)) (
  needSome d1 fun a30 =>
  aw w11 (a30.add 1) 1 /\ ∀ w31, w31 = w11.setCell (a30.add 1) (Slc.v ⟨none, 0, 0⟩) ->
  K .nilIface w31)))
theorem qm (d1 : Option Addr) {w : World} {R : Ending -> World -> Prop} (h : my d1 w fun v w' => R (.returned v) w') : Calls Tryz.prog b7 ⟨[(.pointer d1)]⟩ w R :=
  ab (ann := (.two .none (.two .none (.two (.two .none (.one (.loop [(13, (Sh.int .i64))] [4, 14, 15, 16, 17, 18, 19, 20] .none))) .none)))) ag mixed Tryz.func130 (Eq.mp (by kernel_rfl) h)
def nJ (d1 : Option Addr) (i2 : Int) (w : World) (K : Value -> World -> Prop) : Prop :=
  aA w (.cells ⟨[(.int .i64 i2)]⟩ 3) fun r3 w4 =>
  aA w4 (.cells ⟨[(Slc.v ⟨none, 0, 0⟩)]⟩ 45) fun r5 w6 =>
  aA w6 (.cells ⟨[.nilIface]⟩ 42) fun r7 w8 =>
  ∃ n9, w8.cell? ⟨r3, 0, none⟩ = some (.int .i64 n9) /\
  Calls Tryz.prog fM ⟨[(.pointer d1), (.int .i64 n9)]⟩ w8 fun e10 w11 =>
  ∃ b12, e10 = .returned (.bool b12) /\
  BIf (!b12) (
  ∃ v13, w11.drew.cell? ⟨aD, 0, none⟩ = some v13 /\
  aw w11.drew ⟨r5, 0, none⟩ 1 /\ ∀ w14, w14 = w11.drew.setCell ⟨r5, 0, none⟩ (Slc.v ⟨none, 0, 0⟩) ->
  (∃ v15, w14.cell? ⟨aD, 0, none⟩ = some v15 /\
  v15 = v13) /\
  oneK v13 (
  oneK v13 (
  aw w14 ⟨r7, 0, none⟩ 1 /\ ∀ w16, w16 = w14.setCell ⟨r7, 0, none⟩ v13 ->
  ∃ s17, w16.cell? ⟨r5, 0, none⟩ = some (Slc.v s17) /\
  ∃ v18, w16.cell? ⟨r7, 0, none⟩ = some v18 /\
  K (.tuple ⟨[s17.v, v18]⟩) w16))) (
  needSome d1 fun a19 =>
  ∃ s20, w11.cell? (a19.add 1) = some (Slc.v s20) /\
  Calls Tryz.prog eJ ⟨[s20.v]⟩ w11 fun e21 w22 =>
  ∃ e23, e21 = .returned e23 /\
  ∃ (gf47 : Nat) (first48 cap49 : List Value), e23 = .func (.func gf47) ⟨first48⟩ ⟨cap49⟩ /\ DD gf47 = true /\
  ∀ (D24 lr25 : Nat) (rc26 : Rec) (w27 : World), D24 = (World.heap w22).size -> lr25 = D24 + 1 -> w27 = World.alloc (World.alloc w22 (.deferred (some []))) (.loop (rc26 .ready none)) ->
  (∀ n30 : Int, ∀ x31 : Int, ∀ x32 : Slc, ∀ (w28 : World) (R29 : Ending -> World -> Prop), (World.heap w28)[lr25]? = some (.loop (rc26 .ready none)) -> (
  aA w28 (.cells ⟨[(.int .i64 0), (Slc.v ⟨none, 0, 0⟩)]⟩ 221) fun r33 w34 =>
  aw w34 ⟨r33, 0, none⟩ 2 /\ ∀ w35, w35 = setCells w34 ⟨r33, 0, none⟩ 0 [(.int .i64 x31), x32.v] ->
  (World.heap w35)[lr25]? = some (.loop (rc26 .ready none)) /\ ∀ w36, w36 = World.putObj w35 lr25 (.loop (rc26 .busy none)) ->
  ∃ n37, w36.cell? ⟨r33, 0, none⟩ = some (.int .i64 n37) /\
  ∃ n38, w36.cell? ⟨r3, 0, none⟩ = some (.int .i64 n38) /\
  BIf (decide (n37 = n38)) (
  ∃ s39, w36.cell? ⟨r33, 1, none⟩ = some (Slc.v s39) /\
  Calls Tryz.prog aQ ⟨[s39.v]⟩ w36 fun e40 w41 =>
  ∃ s42, e40 = .returned (Slc.v s42) /\
  aw w41 ⟨r5, 0, none⟩ 1 /\ ∀ w43, w43 = w41.setCell ⟨r5, 0, none⟩ s42.v ->
  aw w43 ⟨r7, 0, none⟩ 1 /\ ∀ w44, w44 = w43.setCell ⟨r7, 0, none⟩ .nilIface ->
  (World.heap w44)[lr25]? = some (.loop (rc26 .busy none)) /\ ∀ w45, w45 = World.putObj w44 lr25 (.loop (rc26 .done (some Code.ret))) -> R29 (.returned (.bool false)) w45) (
  (World.heap w36)[lr25]? = some (.loop (rc26 .busy none)) /\ ∀ w46, w46 = World.putObj w36 lr25 (.loop (rc26 .ready none)) -> R29 (.returned (.bool true)) w46)) -> jF Tryz.prog lr25 ⟨[(.int .i64 n30), (.agg ⟨[(.int .i64 x31), x32.v]⟩)]⟩ w28 R29) ->
  Calls Tryz.prog gf47 ⟨first48 ++ .func (.yield lr25) #[] #[] :: cap49⟩ w27 fun e50 w51 => (∃ v, e50 = .returned v) /\ (
  ((World.heap w51)[lr25]? = some (.loop (rc26 .done (some Code.ret))) /\ ∀ w52, w52 = World.putObj w51 lr25 (.loop (rc26 .exhausted (some Code.ret))) ->
  (World.heap w52)[D24]? = some (.deferred (some [])) /\ ∀ w53, w53 = World.putObj w52 D24 (.deferred none) ->
  ∃ s54, w53.cell? ⟨r5, 0, none⟩ = some (Slc.v s54) /\
  ∃ v55, w53.cell? ⟨r7, 0, none⟩ = some v55 /\
  K (.tuple ⟨[s54.v, v55]⟩) w53) \/
  ((World.heap w51)[lr25]? = some (.loop (rc26 .ready none)) /\ ∀ w56, w56 = World.putObj w51 lr25 (.loop (rc26 .exhausted none)) ->
  needSome d1 fun a57 =>
  ∃ s58, w56.drew.cell? a57 = some (Slc.v s58) /\
  ∃ n59, w56.drew.cell? ⟨r3, 0, none⟩ = some (.int .i64 n59) /\
  inR .i64 (n59 * 64) /\
  ∃ n60, w56.drew.cell? ⟨r3, 0, none⟩ = some (.int .i64 n60) /\
  inR .i64 (n60 + 1) /\
  inR .i64 ((n60 + 1) * (64 : Int)) /\
  0 <= (n59 * 64) /\ (n59 * 64) <= ((n60 + 1) * (64 : Int)) /\ ((n60 + 1) * (64 : Int)) <= (s58.c : Int) /\ (s58.c : Int) <= (s58.c : Int) /\
  Calls Tryz.prog aQ ⟨[(Slc.v (Slc.sub s58 1 (Int.toNat (n59 * 64)) (Int.toNat ((n60 + 1) * (64 : Int))) s58.c))]⟩ w56.drew fun e62 w63 =>
  ∃ s64, e62 = .returned (Slc.v s64) /\
  aw w63 ⟨r5, 0, none⟩ 1 /\ ∀ w65, w65 = w63.setCell ⟨r5, 0, none⟩ s64.v ->
  aw w65 ⟨r7, 0, none⟩ 1 /\ ∀ w66, w66 = w65.setCell ⟨r7, 0, none⟩ .nilIface ->
  (World.heap w66)[D24]? = some (.deferred (some [])) /\ ∀ w67, w67 = World.putObj w66 D24 (.deferred none) ->
  ∃ s68, w67.cell? ⟨r5, 0, none⟩ = some (Slc.v s68) /\
  ∃ v69, w67.cell? ⟨r7, 0, none⟩ = some v69 /\
  K (.tuple ⟨[s68.v, v69]⟩) w67)))
theorem rj (d1 : Option Addr) (i2 : Int) {w : World} {R : Ending -> World -> Prop} (h : nJ d1 i2 w fun v w' => R (.returned v) w') : Calls Tryz.prog g8 ⟨[(.pointer d1), (.int .i64 i2)]⟩ w R :=
  rB (ann := (.two .none (.two .none (.two (.two .none (.one (.range [.one (Sh.int .i64), .agg [(Sh.int .i64), Sh.slc]] [.ret] .none .none))) .none)))) ag mixed Tryz.func137 (Eq.mp (by kernel_rfl) h)
def jy (s1 : Slc) (w : World) (K : Value -> World -> Prop) : Prop :=
  aA w (.cells ⟨[s1.v]⟩ 132) fun r2 w3 =>
  K (.func (.func 162) ⟨[]⟩ ⟨[(.pointer (some ⟨r2, 0, none⟩))]⟩) w3
theorem nj (s1 : Slc) {w : World} {R : Ending -> World -> Prop} (h : jy s1 w fun v w' => R (.returned v) w') : Calls Tryz.prog eJ ⟨[s1.v]⟩ w R :=
  ab (ann := .none) ag mixed Tryz.func156 (Eq.mp (by kernel_rfl) h)
def iS (lr1 : Nat) (cap2 : Option Addr) (w : World) (K : Value -> World -> Prop) : Prop :=
  needSome cap2 fun a3 =>
  ∃ s4, w.cell? a3 = some (Slc.v s4) /\
  inR .i64 ((s4.l : Int) - (1 : Int)) /\
  ∃ (I5 : (Int) -> World -> Prop) (mu6 : (Int) -> World -> Nat), I5 (((s4.l : Int) - (1 : Int))) w /\ (
  ∀ i7 : Int, ∀ w8 : World, I5 i7 w8 -> ∀ _ _ _ _ _ _ _ _ _ _ _ _ : Value,
  BIf (decide (0 <= i7)) (
  needSome cap2 fun a21 =>
  ∃ s22, w8.cell? a21 = some (Slc.v s22) /\
  needSome s22.p fun a23 =>
  0 <= i7 /\ i7 < (s22.l : Int) /\
  ∃ n24 : Int, ∃ s25 : Slc, rowAt w8 (Addr.add a23 ((Int.toNat i7) * 2)) 0 [(.int .i64 n24), s25.v] /\
  jF Tryz.prog lr1 ⟨[(.int .i64 i7), (.agg ⟨[(.int .i64 n24), s25.v]⟩)]⟩ w8 fun e26 w27 =>
  ∃ b28, e26 = .returned (.bool b28) /\
  BIf (!b28) (
  K (.tuple #[]) w27) (
  inR .i64 (i7 - 1) /\
  (I5 ((i7 - 1)) w27 /\ mu6 ((i7 - 1)) w27 < mu6 i7 w8))) (
  K (.tuple #[]) w8))
theorem lI (lr1 : Nat) (cap2 : Option Addr) {w : World} {R : Ending -> World -> Prop} (h : iS lr1 cap2 w fun v w' => R (.returned v) w') : Calls Tryz.prog bH ⟨[(.func (.yield lr1) ⟨[]⟩ ⟨[]⟩), (.pointer cap2)]⟩ w R :=
  rA (ann := (.two .none (.one (.loop [(3, (Sh.int .i64))] (List.range' 7 12) .none)))) ag mixed Tryz.func162 (Eq.mp (by kernel_rfl) h)
end Go.D

