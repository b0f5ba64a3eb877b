/-
  WHAT IS PROVED: verification conditions of functions of this program, each with its soundness. No further conditions.
-/
import Derived.Test.YtnbddjghhmbmcaaGreatDoorBase
set_option linter.unusedSimpArgs false
set_option maxRecDepth 100000
set_option linter.unusedVariables false
namespace Go.D
open Go Go.Proofs
def y0 (o1 : Option Addr) (err2 : Value) (w : World) (K : Value -> World -> Prop) : Prop :=
  needSome o1 fun a3 =>
  ∃ v4, w.cell? (a3.add 1) = some v4 /\
  isI v4 /\
  BIf (isNilI v4) (
  needSome o1 fun a5 =>
  oneK err2 (
  oneK err2 (
  aw w (a5.add 1) 1 /\ ∀ w6, w6 = w.setCell (a5.add 1) err2 ->
  K (.tuple #[]) w6))) (
  K (.tuple #[]) w)
theorem uI (o1 : Option Addr) (err2 : Value) {w : World} {R : Ending -> World -> Prop} (h : y0 o1 err2 w fun v w' => R (.returned v) w') : Calls Tryz.prog gM ⟨[(.pointer o1), err2]⟩ w R :=
  ab (ann := .none) ag mixed Tryz.func125 (Eq.mp (by kernel_rfl) h)
def tH (o1 : Option Addr) (n2 : Int) (w : World) (K : Value -> World -> Prop) : Prop :=
  ∃ J3 : World -> Prop,
  (
  BIf (decide (n2 < 0)) (
  ∃ v4, w.cell? ⟨aD, 0, none⟩ = some v4 /\
  Calls Tryz.prog gM ⟨[(.pointer o1), v4]⟩ w fun e5 w6 =>
  e5 = .returned (.tuple #[]) /\
  K (.tuple #[]) w6) (
  BIf (decide (4611686018427387903 < n2)) (
  ∃ v7, w.cell? ⟨aD, 0, none⟩ = some v7 /\
  Calls Tryz.prog gM ⟨[(.pointer o1), v7]⟩ w fun e8 w9 =>
  e8 = .returned (.tuple #[]) /\
  K (.tuple #[]) w9) (
  J3 w))) /\ (
  ∀ w10 : World, J3 w10 -> ∀ _ _ _ _ _ _ _ _ _ : Value,
  ∃ (I20 : (Int) -> World -> Prop) (mu21 : (Int) -> World -> Nat), I20 (n2) w10 /\ (
  ∀ n22 : Int, ∀ w23 : World, I20 n22 w23 -> ∀ _ _ _ _ _ _ _ _ _ _ _ _ _ _ _ _ _ : Value,
  BIf (decide (128 <= n22)) (
  needSome o1 fun a41 =>
  ∃ s42, w23.cell? a41 = some (Slc.v s42) /\
  0 <= n22 /\ 0 < (128 : Int) /\
  inR .i64 ((n22 % 128) + (128 : Int)) /\
  aA w23 (.cells ⟨[(.int .u8 (IntKind.wrap .u8 ((n22 % 128) + (128 : Int))))]⟩ 5) fun r43 w44 =>
  ak 1 5 [(.int .u8 0)] w44 s42 (.slc (⟨(some ⟨r43, 0, none⟩), 1, 1⟩ : Slc)) fun s45 w46 =>
  needSome o1 fun a47 =>
  aw w46 a47 1 /\ ∀ w48, w48 = w46.setCell a47 (Slc.v s45) ->
  0 <= (7 : Int) /\ 0 <= n22 /\
  (I20 ((n22 / 128)) w48 /\ mu21 ((n22 / 128)) w48 < mu21 n22 w23)) (
  needSome o1 fun a49 =>
  ∃ s50, w23.cell? a49 = some (Slc.v s50) /\
  aA w23 (.cells ⟨[(.int .u8 (IntKind.wrap .u8 n22))]⟩ 5) fun r51 w52 =>
  ak 1 5 [(.int .u8 0)] w52 s50 (.slc (⟨(some ⟨r51, 0, none⟩), 1, 1⟩ : Slc)) fun s53 w54 =>
  needSome o1 fun a55 =>
  aw w54 a55 1 /\ ∀ w56, w56 = w54.setCell a55 (Slc.v s53) ->
  K (.tuple #[]) w56)))
theorem vQ (o1 : Option Addr) (n2 : Int) {w : World} {R : Ending -> World -> Prop} (h : tH o1 n2 w fun v w' => R (.returned v) w') : Calls Tryz.prog cE ⟨[(.pointer o1), (.int .i64 n2)]⟩ w R :=
  ab (ann := (.cut [] (List.range' 4 9) .none (.two (.one (.loop [(1, (Sh.int .i64))] (List.range' 13 17) .none)) .none))) ag mixed Tryz.func86 (Eq.mp (by kernel_rfl) h)
def rC (o1 : Option Addr) (s2 : List UInt8) (w : World) (K : Value -> World -> Prop) : Prop :=
  Calls Tryz.prog cE ⟨[(.pointer o1), (.int .i64 (((List.length s2) : Nat) : Int))]⟩ w fun e3 w4 =>
  e3 = .returned (.tuple #[]) /\
  needSome o1 fun a5 =>
  ∃ s6, w4.cell? a5 = some (Slc.v s6) /\
  ak 1 5 [(.int .u8 0)] w4 s6 (.str s2) fun s7 w8 =>
  needSome o1 fun a9 =>
  aw w8 a9 1 /\ ∀ w10, w10 = w8.setCell a9 (Slc.v s7) ->
  K (.tuple #[]) w10
theorem uJ (o1 : Option Addr) (s2 : List UInt8) {w : World} {R : Ending -> World -> Prop} (h : rC o1 s2 w fun v w' => R (.returned v) w') : Calls Tryz.prog fg ⟨[(.pointer o1), (dA s2)]⟩ w R :=
  ab (ann := .none) ag mixed Tryz.func87 (Eq.mp (by kernel_rfl) h)
def rD (o1 : Option Addr) (w : World) (K : Value -> World -> Prop) : Prop :=
  needSome o1 fun a2 =>
  ∃ v3, w.cell? (a2.add 1) = some v3 /\
  isI v3 /\
  BIf (!isNilI v3) (
  needSome o1 fun a4 =>
  ∃ v5, w.drew.cell? (a4.add 1) = some v5 /\
  K (.tuple ⟨[(Slc.v ⟨none, 0, 0⟩), v5]⟩) w.drew) (
  needSome o1 fun a6 =>
  ∃ s7, w.cell? a6 = some (Slc.v s7) /\
  BIf (decide ((65536 : Int) < (s7.l : Int))) (
  ∃ v8, w.drew.cell? ⟨jJ, 0, none⟩ = some v8 /\
  K (.tuple ⟨[(Slc.v ⟨none, 0, 0⟩), v8]⟩) w.drew) (
  needSome o1 fun a9 =>
  ∃ s10, w.cell? a9 = some (Slc.v s10) /\
  Calls Tryz.prog aQ ⟨[s10.v]⟩ w fun e11 w12 =>
  ∃ s13, e11 = .returned (Slc.v s13) /\
  K (.tuple ⟨[s13.v, .nilIface]⟩) w12))
theorem uK (o1 : Option Addr) {w : World} {R : Ending -> World -> Prop} (h : rD o1 w fun v w' => R (.returned v) w') : Calls Tryz.prog jH ⟨[(.pointer o1)]⟩ w R :=
  ab (ann := .none) ag mixed Tryz.func88 (Eq.mp (by kernel_rfl) h)
def zU (b1 : Slc) (w : World) (K : Value -> World -> Prop) : Prop :=
  Calls Tryz.prog aQ ⟨[b1.v]⟩ w fun e2 w3 =>
  ∃ s4, e2 = .returned (Slc.v s4) /\
  aA w3 (.cells ⟨[s4.v, .nilIface]⟩ 213) fun r5 w6 =>
  K (.pointer (some ⟨r5, 0, none⟩)) w6
theorem AG (b1 : Slc) {w : World} {R : Ending -> World -> Prop} (h : zU b1 w fun v w' => R (.returned v) w') : Calls Tryz.prog oN ⟨[b1.v]⟩ w R :=
  ab (ann := .none) ag mixed Tryz.func110 (Eq.mp (by kernel_rfl) h)
def AH (i1 : Option Addr) (err2 : Value) (w : World) (K : Value -> World -> Prop) : Prop :=
  needSome i1 fun a3 =>
  ∃ v4, w.cell? (a3.add 1) = some v4 /\
  isI v4 /\
  BIf (isNilI v4) (
  needSome i1 fun a5 =>
  oneK err2 (
  oneK err2 (
  aw w (a5.add 1) 1 /\ ∀ w6, w6 = w.setCell (a5.add 1) err2 ->
  K (.int .i64 0) w6))) (
  K (.int .i64 0) w)
theorem vR (i1 : Option Addr) (err2 : Value) {w : World} {R : Ending -> World -> Prop} (h : AH i1 err2 w fun v w' => R (.returned v) w') : Calls Tryz.prog aX ⟨[(.pointer i1), err2]⟩ w R :=
  ab (ann := .none) ag mixed Tryz.func144 (Eq.mp (by kernel_rfl) h)
def vn (i1 : Option Addr) (w : World) (K : Value -> World -> Prop) : Prop :=
  needSome i1 fun a2 =>
  ∃ s3, w.cell? a2 = some (Slc.v s3) /\
  ∃ (I4 : (Int) -> (Int) -> World -> Prop) (mu5 : (Int) -> (Int) -> World -> Nat), I4 ((0 : Int)) ((0 : Int)) w /\ (
  ∀ n6 : Int, ∀ i7 : Int, ∀ w8 : World, I4 n6 i7 w8 -> ∀ _ _ _ _ _ _ _ _ _ _ _ _ _ _ _ _ _ _ _ _ _ _ _ _ _ _ _ _ _ _ _ _ _ _ _ _ _ _ _ _ _ _ _ _ _ _ _ _ _ _ _ _ _ _ : Value,
  BIf (decide (i7 < (s3.l : Int))) (
  needSome s3.p fun a63 =>
  0 <= i7 /\ i7 < (s3.l : Int) /\
  ∃ n64, w8.cell? (Addr.add a63 ((Int.toNat i7) * 1)) = some (.int .u8 n64) /\
  0 <= n64 /\ 0 < (128 : Int) /\
  inR .i64 (n64 % 128) /\
  inR .i64 ((7 : Int) * i7) /\
  0 <= ((7 : Int) * i7) /\
  inR .i64 ((n64 % 128) * ((2 ^ min (Int.toNat ((7 : Int) * i7)) 64 : Nat) : Int)) /\
  0 <= n6 /\ 0 <= ((n64 % 128) * ((2 ^ min (Int.toNat ((7 : Int) * i7)) 64 : Nat) : Int)) /\ inR .i64 n6 /\ inR .i64 ((n64 % 128) * ((2 ^ min (Int.toNat ((7 : Int) * i7)) 64 : Nat) : Int)) /\
  ∃ J65 : World -> Prop,
  (
  BIf (decide (128 <= n64)) (
  BIf (decide (i7 < 8)) (
  inR .i64 (i7 + 1) /\
  (I4 ((bitsI .or n6 ((n64 % 128) * ((2 ^ min (Int.toNat ((7 : Int) * i7)) 64 : Nat) : Int)))) ((i7 + 1)) w8 /\ mu5 ((bitsI .or n6 ((n64 % 128) * ((2 ^ min (Int.toNat ((7 : Int) * i7)) 64 : Nat) : Int)))) ((i7 + 1)) w8 < mu5 n6 i7 w8)) (
  J65 w8)) (
  J65 w8)) /\ (
  ∀ w66 : World, J65 w66 -> ∀ _ _ _ _ _ _ : Value,
  BIf (decide (128 <= n64)) (
  ∃ v73, w66.cell? ⟨aH, 0, none⟩ = some v73 /\
  Calls Tryz.prog aX ⟨[(.pointer i1), v73]⟩ w66 fun e74 w75 =>
  ∃ n76, e74 = .returned (.int .i64 n76) /\
  K (.int .i64 n76) w75) (
  BIf (decide (n64 = 0)) (
  BIf (decide (0 < i7)) (
  ∃ v77, w66.cell? ⟨aH, 0, none⟩ = some v77 /\
  Calls Tryz.prog aX ⟨[(.pointer i1), v77]⟩ w66 fun e78 w79 =>
  ∃ n80, e78 = .returned (.int .i64 n80) /\
  K (.int .i64 n80) w79) (
  BIf (decide ((4611686018427387903 : Int) < (bitsI .or n6 ((n64 % 128) * ((2 ^ min (Int.toNat ((7 : Int) * i7)) 64 : Nat) : Int))))) (
  ∃ v81, w66.cell? ⟨aH, 0, none⟩ = some v81 /\
  Calls Tryz.prog aX ⟨[(.pointer i1), v81]⟩ w66 fun e82 w83 =>
  ∃ n84, e82 = .returned (.int .i64 n84) /\
  K (.int .i64 n84) w83) (
  BIf (decide ((bitsI .or n6 ((n64 % 128) * ((2 ^ min (Int.toNat ((7 : Int) * i7)) 64 : Nat) : Int))) < (0 : Int))) (
  ∃ v85, w66.cell? ⟨aH, 0, none⟩ = some v85 /\
  Calls Tryz.prog aX ⟨[(.pointer i1), v85]⟩ w66 fun e86 w87 =>
  ∃ n88, e86 = .returned (.int .i64 n88) /\
  K (.int .i64 n88) w87) (
  needSome i1 fun a89 =>
  ∃ s90, w66.cell? a89 = some (Slc.v s90) /\
  inR .i64 (i7 + 1) /\
  0 <= (i7 + 1) /\ (i7 + 1) <= (s90.l : Int) /\ (s90.l : Int) <= (s90.c : Int) /\ (s90.c : Int) <= (s90.c : Int) /\
  needSome i1 fun a92 =>
  aw w66 a92 1 /\ ∀ w93, w93 = w66.setCell a92 (Slc.v (Slc.sub s90 1 (Int.toNat (i7 + 1)) s90.l s90.c)) ->
  K (.int .i64 (bitsI .or n6 ((n64 % 128) * ((2 ^ min (Int.toNat ((7 : Int) * i7)) 64 : Nat) : Int)))) w93)))) (
  BIf (decide ((4611686018427387903 : Int) < (bitsI .or n6 ((n64 % 128) * ((2 ^ min (Int.toNat ((7 : Int) * i7)) 64 : Nat) : Int))))) (
  ∃ v94, w66.cell? ⟨aH, 0, none⟩ = some v94 /\
  Calls Tryz.prog aX ⟨[(.pointer i1), v94]⟩ w66 fun e95 w96 =>
  ∃ n97, e95 = .returned (.int .i64 n97) /\
  K (.int .i64 n97) w96) (
  BIf (decide ((bitsI .or n6 ((n64 % 128) * ((2 ^ min (Int.toNat ((7 : Int) * i7)) 64 : Nat) : Int))) < (0 : Int))) (
  ∃ v98, w66.cell? ⟨aH, 0, none⟩ = some v98 /\
  Calls Tryz.prog aX ⟨[(.pointer i1), v98]⟩ w66 fun e99 w100 =>
  ∃ n101, e99 = .returned (.int .i64 n101) /\
  K (.int .i64 n101) w100) (
  needSome i1 fun a102 =>
  ∃ s103, w66.cell? a102 = some (Slc.v s103) /\
  inR .i64 (i7 + 1) /\
  0 <= (i7 + 1) /\ (i7 + 1) <= (s103.l : Int) /\ (s103.l : Int) <= (s103.c : Int) /\ (s103.c : Int) <= (s103.c : Int) /\
  needSome i1 fun a105 =>
  aw w66 a105 1 /\ ∀ w106, w106 = w66.setCell a105 (Slc.v (Slc.sub s103 1 (Int.toNat (i7 + 1)) s103.l s103.c)) ->
  K (.int .i64 (bitsI .or n6 ((n64 % 128) * ((2 ^ min (Int.toNat ((7 : Int) * i7)) 64 : Nat) : Int)))) w106)))))) (
  ∃ v107, w8.cell? ⟨iQ, 0, none⟩ = some v107 /\
  Calls Tryz.prog aX ⟨[(.pointer i1), v107]⟩ w8 fun e108 w109 =>
  ∃ n110, e108 = .returned (.int .i64 n110) /\
  K (.int .i64 n110) w109))
theorem xz (i1 : Option Addr) {w : World} {R : Ending -> World -> Prop} (h : vn i1 w fun v w' => R (.returned v) w') : Calls Tryz.prog lE ⟨[(.pointer i1)]⟩ w R :=
  ab (ann := (.two .none (.two .none (.two (.two .none (.one (.loop [(3, (Sh.int .i64)), (11, (Sh.int .i64))] ([2, 4, 5] ++ List.range' 12 51) (.two .none (.two .none (.two (.one (.two .none (.two .none (.cut [] [24, 25, 26, 27, 28, 29] .none .none)))) .none)))))) .none)))) ag mixed Tryz.func143 (Eq.mp (by kernel_rfl) h)
def vo (i1 : Option Addr) (most2 : Int) (w : World) (K : Value -> World -> Prop) : Prop :=
  needSome i1 fun a3 =>
  ∃ v4, w.cell? (a3.add 1) = some v4 /\
  isI v4 /\
  BIf (!isNilI v4) (
  K (.int .i64 0) w) (
  Calls Tryz.prog lE ⟨[(.pointer i1)]⟩ w fun e5 w6 =>
  ∃ n7, e5 = .returned (.int .i64 n7) /\
  needSome i1 fun a8 =>
  ∃ v9, w6.cell? (a8.add 1) = some v9 /\
  isI v9 /\
  BIf (isNilI v9) (
  BIf (decide (most2 < n7)) (
  ∃ v10, w6.cell? ⟨aD, 0, none⟩ = some v10 /\
  Calls Tryz.prog aX ⟨[(.pointer i1), v10]⟩ w6 fun e11 w12 =>
  ∃ n13, e11 = .returned (.int .i64 n13) /\
  K (.int .i64 n13) w12) (
  K (.int .i64 n7) w6)) (
  K (.int .i64 n7) w6))
theorem xA (i1 : Option Addr) (most2 : Int) {w : World} {R : Ending -> World -> Prop} (h : vo i1 most2 w fun v w' => R (.returned v) w') : Calls Tryz.prog dS ⟨[(.pointer i1), (.int .i64 most2)]⟩ w R :=
  ab (ann := .none) ag mixed Tryz.func111 (Eq.mp (by kernel_rfl) h)
def tI (i1 : Option Addr) (most2 : Int) (w : World) (K : Value -> World -> Prop) : Prop :=
  Calls Tryz.prog dS ⟨[(.pointer i1), (.int .i64 most2)]⟩ w fun e3 w4 =>
  ∃ n5, e3 = .returned (.int .i64 n5) /\
  needSome i1 fun a6 =>
  ∃ v7, w4.cell? (a6.add 1) = some v7 /\
  isI v7 /\
  BIf (!isNilI v7) (
  K (dA ([] : List UInt8)) w4) (
  needSome i1 fun a8 =>
  ∃ s9, w4.cell? a8 = some (Slc.v s9) /\
  BIf (decide ((s9.l : Int) < n5)) (
  ∃ v10, w4.cell? ⟨iQ, 0, none⟩ = some v10 /\
  Calls Tryz.prog aX ⟨[(.pointer i1), v10]⟩ w4 fun e11 w12 =>
  ∃ n13, e11 = .returned (.int .i64 n13) /\
  K (dA ([] : List UInt8)) w12) (
  needSome i1 fun a14 =>
  ∃ s15, w4.cell? a14 = some (Slc.v s15) /\
  0 <= (0 : Int) /\ (0 : Int) <= n5 /\ n5 <= (s15.c : Int) /\ (s15.c : Int) <= (s15.c : Int) /\
  ∃ t17 : List UInt8, au w4 (Slc.sub s15 1 0 (Int.toNat n5) s15.c) t17 /\
  needSome i1 fun a18 =>
  ∃ s19, w4.cell? a18 = some (Slc.v s19) /\
  0 <= n5 /\ n5 <= (s19.l : Int) /\ (s19.l : Int) <= (s19.c : Int) /\ (s19.c : Int) <= (s19.c : Int) /\
  needSome i1 fun a21 =>
  aw w4 a21 1 /\ ∀ w22, w22 = w4.setCell a21 (Slc.v (Slc.sub s19 1 (Int.toNat n5) s19.l s19.c)) ->
  K (dA t17) w22))
theorem vS (i1 : Option Addr) (most2 : Int) {w : World} {R : Ending -> World -> Prop} (h : tI i1 most2 w fun v w' => R (.returned v) w') : Calls Tryz.prog ik ⟨[(.pointer i1), (.int .i64 most2)]⟩ w R :=
  ab (ann := .none) ag mixed Tryz.func112 (Eq.mp (by kernel_rfl) h)
def BO (i1 : Option Addr) (w : World) (K : Value -> World -> Prop) : Prop :=
  needSome i1 fun a2 =>
  ∃ v3, w.cell? (a2.add 1) = some v3 /\
  isI v3 /\
  BIf (isNilI v3) (
  needSome i1 fun a4 =>
  ∃ s5, w.cell? a4 = some (Slc.v s5) /\
  BIf (decide ((0 : Int) < (s5.l : Int))) (
  ∃ v6, w.cell? ⟨aH, 0, none⟩ = some v6 /\
  K v6 w) (
  needSome i1 fun a7 =>
  ∃ v8, w.cell? (a7.add 1) = some v8 /\
  K v8 w)) (
  needSome i1 fun a9 =>
  ∃ v10, w.cell? (a9.add 1) = some v10 /\
  K v10 w)
theorem xB (i1 : Option Addr) {w : World} {R : Ending -> World -> Prop} (h : BO i1 w fun v w' => R (.returned v) w') : Calls Tryz.prog jd ⟨[(.pointer i1)]⟩ w R :=
  ab (ann := .none) ag mixed Tryz.func113 (Eq.mp (by kernel_rfl) h)
end Go.D

