/-
  WHAT IS PROVED: verification conditions of functions of this program, each with its soundness. No further conditions.
-/
import Derived.Test.YtppbbkmjjpggkaaGreatDoorBase
set_option linter.unusedSimpArgs false
set_option maxRecDepth 100000
set_option linter.unusedVariables false
namespace Go.D
open Go Go.Proofs
def oT (n1 : Option Addr) (epoch2 : Int) (w : World) (K : Value -> World -> Prop) : Prop :=
  needSome n1 fun a3 =>
  ∃ p4 : Option Addr, w.cell? a3 = some (.pointer p4) /\
  Calls Tryz.prog gC ⟨[(.pointer p4)]⟩ w fun e5 w6 =>
  ∃ n7, e5 = .returned (.int .i64 n7) /\
  BIf (decide (epoch2 < n7)) (
  ∃ v8, w6.drew.cell? ⟨dI, 0, none⟩ = some v8 /\
  K (.tuple ⟨[(.int .i64 (0 : Int)), v8]⟩) w6.drew) (
  needSome n1 fun a9 =>
  ∃ p10 : Option Addr, w6.cell? a9 = some (.pointer p10) /\
  Calls Tryz.prog dH ⟨[(.pointer p10)]⟩ w6 fun e11 w12 =>
  ∃ n13, e11 = .returned (.int .i64 n13) /\
  K (.tuple ⟨[(.int .i64 n13), .nilIface]⟩) w12)
theorem rI (n1 : Option Addr) (epoch2 : Int) {w : World} {R : Ending -> World -> Prop} (h : oT n1 epoch2 w fun v w' => R (.returned v) w') : Calls Tryz.prog ik ⟨[(.pointer n1), (.int .i64 epoch2)]⟩ w R :=
  ab (ann := .none) ah mixed Tryz.func81 (Eq.mp (by kernel_rfl) h)
def Au (u1 : Option Addr) (w : World) (K : Value -> World -> Prop) : Prop :=
  aH w (.cells ⟨[(.pointer u1), (Slc.v ⟨none, 0, 0⟩), (.bool false)]⟩ 102) fun r2 w3 =>
  K (.pointer (some ⟨r2, 0, none⟩)) w3
theorem Av (u1 : Option Addr) {w : World} {R : Ending -> World -> Prop} (h : Au u1 w fun v w' => R (.returned v) w') : Calls Tryz.prog ud ⟨[(.pointer u1)]⟩ w R :=
  ab (ann := .none) ah mixed Tryz.func34 (Eq.mp (by kernel_rfl) h)
def nF (n1 : Option Addr) (w : World) (K : Value -> World -> Prop) : Prop :=
  needSome n1 fun a2 =>
  ∃ s3, w.cell? (a2.add 1) = some (Slc.v s3) /\
  K (.int .i64 (s3.l : Int)) w
theorem qE (n1 : Option Addr) {w : World} {R : Ending -> World -> Prop} (h : nF n1 w fun v w' => R (.returned v) w') : Calls Tryz.prog gw ⟨[(.pointer n1)]⟩ w R :=
  ab (ann := .none) ah mixed Tryz.func12 (Eq.mp (by kernel_rfl) h)
def rJ (n1 : Option Addr) (q2 : Int) (q3 : Int) (q4 : Int) (q5 : Int) (q6 : Slc) (w : World) (K : Value -> World -> Prop) : Prop :=
  aH w (.cells ⟨[(.int .i64 q2), (.int .i64 q3), (.int .i64 q4), (.int .i64 q5), (Slc.v q6)]⟩ 30) fun r7 w8 =>
  ∃ n9, w8.cell? ⟨r7, 1, none⟩ = some (.int .i64 n9) /\
  BIf (decide (n9 = (1 : Int))) (
  needSome n1 fun a10 =>
  ∃ p11 : Option Addr, w8.drew.cell? a10 = some (.pointer p11) /\
  ∃ n12, w8.drew.cell? ⟨r7, 2, none⟩ = some (.int .i64 n12) /\
  ∃ n13, w8.drew.cell? ⟨r7, 3, none⟩ = some (.int .i64 n13) /\
  ∃ s14, w8.drew.cell? ⟨r7, 4, none⟩ = some (Slc.v s14) /\
  Calls Tryz.prog gy ⟨[(.pointer p11), (.int .i64 n12), (.int .i64 n13), (Slc.v s14)]⟩ w8.drew fun e15 w16 =>
  ∃ e17, e15 = .returned e17 /\
  K (.tuple ⟨[(.int .i64 (0 : Int)), (Slc.v ⟨none, 0, 0⟩), e17]⟩) w16) (
  BIf (decide (n9 = (2 : Int))) (
  needSome n1 fun a18 =>
  ∃ p19 : Option Addr, w8.drew.cell? a18 = some (.pointer p19) /\
  ∃ n20, w8.drew.cell? ⟨r7, 2, none⟩ = some (.int .i64 n20) /\
  ∃ n21, w8.drew.cell? ⟨r7, 3, none⟩ = some (.int .i64 n21) /\
  Calls Tryz.prog ie ⟨[(.pointer p19), (.int .i64 n20), (.int .i64 n21)]⟩ w8.drew fun e22 w23 =>
  ∃ s24 : Slc, ∃ e25, e22 = .returned (.tuple ⟨[(Slc.v s24), e25]⟩) /\
  BIf (decide ((2000 : Int) < (s24.l : Int))) (
  ∃ v26, w23.drew.cell? ⟨bw, 0, none⟩ = some v26 /\
  K (.tuple ⟨[(.int .i64 (0 : Int)), (Slc.v ⟨none, 0, 0⟩), v26]⟩) w23.drew) (
  K (.tuple ⟨[(.int .i64 (0 : Int)), (Slc.v s24), e25]⟩) w23)) (
  BIf (decide (n9 = (3 : Int))) (
  needSome n1 fun a27 =>
  ∃ p28 : Option Addr, w8.drew.cell? a27 = some (.pointer p28) /\
  ∃ n29, w8.drew.cell? ⟨r7, 2, none⟩ = some (.int .i64 n29) /\
  ∃ n30, w8.drew.cell? ⟨r7, 3, none⟩ = some (.int .i64 n30) /\
  Calls Tryz.prog ig ⟨[(.pointer p28), (.int .i64 n29), (.int .i64 n30)]⟩ w8.drew fun e31 w32 =>
  ∃ e33, e31 = .returned e33 /\
  K (.tuple ⟨[(.int .i64 (0 : Int)), (Slc.v ⟨none, 0, 0⟩), e33]⟩) w32) (
  BIf (decide (n9 = (4 : Int))) (
  needSome n1 fun a34 =>
  ∃ p35 : Option Addr, w8.drew.cell? a34 = some (.pointer p35) /\
  ∃ n36, w8.drew.cell? ⟨r7, 2, none⟩ = some (.int .i64 n36) /\
  Calls Tryz.prog ij ⟨[(.pointer p35), (.int .i64 n36)]⟩ w8.drew fun e37 w38 =>
  ∃ n39 : Int, ∃ e40, e37 = .returned (.tuple ⟨[(.int .i64 n39), e40]⟩) /\
  K (.tuple ⟨[(.int .i64 n39), (Slc.v ⟨none, 0, 0⟩), e40]⟩) w38) (
  ∃ n41, w8.cell? ⟨r7, 2, none⟩ = some (.int .i64 n41) /\
  Calls Tryz.prog ik ⟨[(.pointer n1), (.int .i64 n41)]⟩ w8 fun e42 w43 =>
  ∃ n44 : Int, ∃ e45, e42 = .returned (.tuple ⟨[(.int .i64 n44), e45]⟩) /\
  K (.tuple ⟨[(.int .i64 n44), (Slc.v ⟨none, 0, 0⟩), e45]⟩) w43))))
theorem uU (n1 : Option Addr) (q2 : Int) (q3 : Int) (q4 : Int) (q5 : Int) (q6 : Slc) {w : World} {R : Ending -> World -> Prop} (h : rJ n1 q2 q3 q4 q5 q6 w fun v w' => R (.returned v) w') : Calls Tryz.prog jx ⟨[(.pointer n1), (.agg ⟨[(.int .i64 q2), (.int .i64 q3), (.int .i64 q4), (.int .i64 q5), (Slc.v q6)]⟩)]⟩ w R :=
  ab (ann := .none) ah mixed Tryz.func40 (Eq.mp (by kernel_rfl) h)
def ke (t1 : Int) (t2 : Int) (t3 : Slc) (cap4 : Addr) (cap5 : Addr) (w : World) (K : Value -> World -> Prop) : Prop :=
  aH w (.cells ⟨[(.int .i64 t1), (.int .i64 t2), (Slc.v t3)]⟩ 105) fun r6 w7 =>
  ∃ n8, w7.cell? ⟨r6, 0, none⟩ = some (.int .i64 n8) /\
  ∃ n9, w7.cell? cap4 = some (.int .i64 n9) /\
  BIf (decide (n8 = n9)) (
  ∃ n10, w7.cell? ⟨r6, 1, none⟩ = some (.int .i64 n10) /\
  ∃ n11, w7.cell? cap5 = some (.int .i64 n11) /\
  K (.bool (decide (n10 = n11))) w7) (
  K (.bool false) w7)
theorem nZ (t1 : Int) (t2 : Int) (t3 : Slc) (cap4 : Addr) (cap5 : Addr) {w : World} {R : Ending -> World -> Prop} (h : ke t1 t2 t3 cap4 cap5 w fun v w' => R (.returned v) w') : Calls Tryz.prog dy ⟨[(.agg ⟨[(.int .i64 t1), (.int .i64 t2), (Slc.v t3)]⟩), (.pointer (some cap4)), (.pointer (some cap5))]⟩ w R :=
  ab (ann := .none) ah mixed Tryz.func38 (Eq.mp (by kernel_rfl) h)
def cD (s1 : Slc) (c2 : Option Addr) (c3 : Option Addr) (w : World) (K : Value -> World -> Prop) : Prop :=
  ∃ (I4 : (Int) -> World -> Prop) (mu5 : (Int) -> World -> Nat), I4 ((0 : Int)) w /\ (
  ∀ i6 : Int, ∀ w7 : World, I4 i6 w7 -> ∀ _ _ _ _ _ _ _ _ _ _ _ _ : Value,
  BIf (decide (i6 < (s1.l : Int))) (
  needSome s1.p fun a20 =>
  0 <= i6 /\ i6 < (s1.l : Int) /\
  ∃ n21 : Int, ∃ n22 : Int, ∃ s23 : Slc, rowAt w7 (Addr.add a20 ((Int.toNat i6) * 3)) 0 [(.int .i64 n21), (.int .i64 n22), (Slc.v s23)] /\
  Calls Tryz.prog dy ⟨[(.agg ⟨[(.int .i64 n21), (.int .i64 n22), (Slc.v s23)]⟩), (.pointer c2), (.pointer c3)]⟩ w7 fun e24 w25 =>
  ∃ b26, e24 = .returned (.bool b26) /\
  BIf b26 (
  K (.int .i64 i6) w25) (
  inR .i64 (i6 + (1 : Int)) /\
  (I4 ((i6 + (1 : Int))) w25 /\ mu5 ((i6 + (1 : Int))) w25 < mu5 i6 w7))) (
  K (.int .i64 (-1 : Int)) w7))
theorem eC (s1 : Slc) (c2 : Option Addr) (c3 : Option Addr) {w : World} {R : Ending -> World -> Prop} (h : cD s1 c2 c3 w fun v w' => R (.returned v) w') : Calls Tryz.prog dJ ⟨[(Slc.v s1), (.func (.func 38) ⟨[]⟩ ⟨[(.pointer c2), (.pointer c3)]⟩)]⟩ w R :=
  ab (ann := (.two .none (.two (.two .none (.one (.loop [(8, (Sh.int .i64))] ([4, 5] ++ List.range' 9 10) .none))) .none))) ah mixed Tryz.func37 (Eq.mp (by kernel_rfl) h)
def kf (s1 : Slc) (i2 : Int) (j3 : Int) (w : World) (K : Value -> World -> Prop) : Prop :=
  0 <= i2 /\ i2 <= j3 /\ j3 <= (s1.l : Int) /\ (s1.l : Int) <= (s1.c : Int) /\
  BIf (decide (i2 = j3)) (
  K (Slc.v s1) w) (
  0 <= (0 : Int) /\ (0 : Int) <= i2 /\ i2 <= (s1.c : Int) /\ (s1.c : Int) <= (s1.c : Int) /\
  0 <= j3 /\ j3 <= (s1.l : Int) /\ (s1.l : Int) <= (s1.c : Int) /\ (s1.c : Int) <= (s1.c : Int) /\
  aK 3 105 [(.int .i64 (0 : Int)), (.int .i64 (0 : Int)), (Slc.v ⟨none, 0, 0⟩)] w.drew (Slc.sub s1 3 0 (Int.toNat i2) s1.c) (.slc (Slc.sub s1 3 (Int.toNat j3) s1.l s1.c)) fun s7 w8 =>
  0 <= (s7.l : Int) /\ (s7.l : Int) <= (s1.l : Int) /\ (s1.l : Int) <= (s7.c : Int) /\ (s7.c : Int) <= (s7.c : Int) /\
  jW [(.int .i64 (0 : Int)), (.int .i64 (0 : Int)), (Slc.v ⟨none, 0, 0⟩)] w8 (Slc.sub s7 3 s7.l s1.l s7.c) fun w10 =>
  K (Slc.v s7) w10)
theorem oa (s1 : Slc) (i2 : Int) (j3 : Int) {w : World} {R : Ending -> World -> Prop} (h : kf s1 i2 j3 w fun v w' => R (.returned v) w') : Calls Tryz.prog cA ⟨[(Slc.v s1), (.int .i64 i2), (.int .i64 j3)]⟩ w R :=
  ab (ann := .none) ah mixed Tryz.func44 (Eq.mp (by kernel_rfl) h)
def l6 (n1 : Option Addr) (from2 : Int) (b3 : Slc) (w : World) (K : Value -> World -> Prop) : Prop :=
  aH w (.cells ⟨[(.int .i64 from2)]⟩ 3) fun r4 w5 =>
  Calls Tryz.prog jN ⟨[(Slc.v b3)]⟩ w5 fun e6 w7 =>
  ∃ x8 : Int, ∃ x9 : Int, ∃ x10 : Int, ∃ x11 : Int, ∃ x12 : Slc, ∃ x13 : Int, ∃ x14 : Int, ∃ x15 : Int, ∃ x16 : Slc, ∃ b17 : Bool, ∃ e18, e6 = .returned (.tuple ⟨[(.agg ⟨[(.int .i64 x8), (.int .i64 x9), (.int .i64 x10), (.int .i64 x11), (Slc.v x12)]⟩), (.agg ⟨[(.int .i64 x13), (.int .i64 x14), (.int .i64 x15), (Slc.v x16)]⟩), (.bool b17), e18]⟩) /\
  aH w7 (.cells ⟨[(.int .i64 (0 : Int)), (.int .i64 (0 : Int)), (.int .i64 (0 : Int)), (.int .i64 (0 : Int)), (Slc.v ⟨none, 0, 0⟩)]⟩ 30) fun r19 w20 =>
  aH w20 (.cells ⟨[(.int .i64 (0 : Int)), (.int .i64 (0 : Int)), (.int .i64 (0 : Int)), (Slc.v ⟨none, 0, 0⟩)]⟩ 65) fun r21 w22 =>
  az w22 ⟨r19, 0, none⟩ 5 /\ ∀ w23, w23 = setCells w22 ⟨r19, 0, none⟩ 0 [(.int .i64 x8), (.int .i64 x9), (.int .i64 x10), (.int .i64 x11), (Slc.v x12)] ->
  az w23 ⟨r21, 0, none⟩ 4 /\ ∀ w24, w24 = setCells w23 ⟨r21, 0, none⟩ 0 [(.int .i64 x13), (.int .i64 x14), (.int .i64 x15), (Slc.v x16)] ->
  ∃ J25 : World -> Prop,
  (
  isI e18 /\
  BIf (!isNilI e18) (
  K (.tuple ⟨[(Slc.v ⟨none, 0, 0⟩), (.bool false)]⟩) w24) (
  BIf (!b17) (
  K (.tuple ⟨[(Slc.v ⟨none, 0, 0⟩), (.bool false)]⟩) w24) (
  needSome n1 fun a26 =>
  ∃ b27, w24.cell? (a26.add 2) = some (.bool b27) /\
  BIf b27 (
  K (.tuple ⟨[(Slc.v ⟨none, 0, 0⟩), (.bool false)]⟩) w24) (
  J25 w24)))) /\ (
  ∀ w28 : World, J25 w28 -> ∀ _ _ _ _ _ _ _ _ _ _ _ _ _ _ : Value,
  needSome n1 fun a43 =>
  ∃ s44, w28.cell? (a43.add 1) = some (Slc.v s44) /\
  Calls Tryz.prog dJ ⟨[(Slc.v s44), (.func (.func 38) ⟨[]⟩ ⟨[(.pointer (some ⟨r4, 0, none⟩)), (.pointer (some ⟨r19, 0, none⟩))]⟩)]⟩ w28 fun e45 w46 =>
  ∃ n47, e45 = .returned (.int .i64 n47) /\
  BIf (decide ((0 : Int) <= n47)) (
  needSome n1 fun a48 =>
  ∃ s49, w46.cell? (a48.add 1) = some (Slc.v s49) /\
  needSome s49.p fun a50 =>
  0 <= n47 /\ n47 < (s49.l : Int) /\
  ∃ s51, w46.cell? ((Addr.add a50 ((Int.toNat n47) * 3)).add 2) = some (Slc.v s51) /\
  Calls Tryz.prog ar ⟨[(Slc.v s51)]⟩ w46 fun e52 w53 =>
  ∃ s54, e52 = .returned (Slc.v s54) /\
  K (.tuple ⟨[(Slc.v s54), (.bool true)]⟩) w53) (
  ∃ n55 : Int, ∃ n56 : Int, ∃ n57 : Int, ∃ n58 : Int, ∃ s59 : Slc, rowAt w46 ⟨r19, 0, none⟩ 0 [(.int .i64 n55), (.int .i64 n56), (.int .i64 n57), (.int .i64 n58), (Slc.v s59)] /\
  Calls Tryz.prog jx ⟨[(.pointer n1), (.agg ⟨[(.int .i64 n55), (.int .i64 n56), (.int .i64 n57), (.int .i64 n58), (Slc.v s59)]⟩)]⟩ w46 fun e60 w61 =>
  ∃ n62 : Int, ∃ s63 : Slc, ∃ e64, e60 = .returned (.tuple ⟨[(.int .i64 n62), (Slc.v s63), e64]⟩) /\
  ∃ v65, w61.cell? ⟨dP, 0, none⟩ = some v65 /\
  Calls Tryz.prog jO ⟨[e64, v65]⟩ w61 fun e66 w67 =>
  ∃ b68, e66 = .returned (.bool b68) /\
  BIf b68 (
  needSome n1 fun a69 =>
  az w67 (a69.add 2) 1 /\ ∀ w70, w70 = w67.setCell (a69.add 2) (.bool true) ->
  K (.tuple ⟨[(Slc.v ⟨none, 0, 0⟩), (.bool false)]⟩) w70) (
  ∃ n71, w67.drew.cell? ⟨r19, 0, none⟩ = some (.int .i64 n71) /\
  (
  Calls Tryz.prog eo ⟨[e64]⟩ w67.drew fun e72 w73 =>
  ∃ n74, e72 = .returned (.int .i64 n74) /\
  (∃ n75, w73.cell? ⟨r19, 0, none⟩ = some (.int .i64 n75) /\
  (Value.int .i64 n75) = (Value.int .i64 n71)) /\
  aH w73 (.cells ⟨[(.int .i64 (0 : Int)), (.int .i64 (0 : Int)), (.int .i64 (0 : Int)), (Slc.v ⟨none, 0, 0⟩)]⟩ 65) fun r76 w77 =>
  (∃ n78, w77.cell? ⟨r19, 0, none⟩ = some (.int .i64 n78) /\
  (Value.int .i64 n78) = (Value.int .i64 n71)) /\
  az w77 ⟨r76, 0, none⟩ 4 /\ ∀ w79, w79 = setCells w77 ⟨r76, 0, none⟩ 0 [(.int .i64 n71), (.int .i64 n74), (.int .i64 (0 : Int)), (Slc.v ⟨none, 0, 0⟩)] ->
  ∃ J80 : World -> Prop,
  (
  isI e64 /\
  BIf (isNilI e64) (
  az w79 ⟨r76, 2, none⟩ 1 /\ ∀ w81, w81 = w79.setCell ⟨r76, 2, none⟩ (.int .i64 n62) ->
  az w81 ⟨r76, 3, none⟩ 1 /\ ∀ w82, w82 = w81.setCell ⟨r76, 3, none⟩ (Slc.v s63) ->
  J80 w82) (
  J80 w79)) /\ (
  ∀ w83 : World, J80 w83 -> ∀ _ _ _ _ _ _ : Value,
  ∃ n90 : Int, ∃ n91 : Int, ∃ n92 : Int, ∃ s93 : Slc, rowAt w83 ⟨r76, 0, none⟩ 0 [(.int .i64 n90), (.int .i64 n91), (.int .i64 n92), (Slc.v s93)] /\
  Calls Tryz.prog ia ⟨[(.agg ⟨[(.int .i64 n90), (.int .i64 n91), (.int .i64 n92), (Slc.v s93)]⟩)]⟩ w83 fun e94 w95 =>
  ∃ s96 : Slc, ∃ e97, e94 = .returned (.tuple ⟨[(Slc.v s96), e97]⟩) /\
  isI e97 /\
  BIf (!isNilI e97) (
  K (.tuple ⟨[(Slc.v ⟨none, 0, 0⟩), (.bool false)]⟩) w95) (
  needSome n1 fun a98 =>
  ∃ s99, w95.drew.cell? (a98.add 1) = some (Slc.v s99) /\
  ∃ n100, w95.drew.cell? ⟨r4, 0, none⟩ = some (.int .i64 n100) /\
  ∃ n101, w95.drew.cell? ⟨r19, 0, none⟩ = some (.int .i64 n101) /\
  aH w95.drew (.cells ⟨[(.int .i64 n100), (.int .i64 n101), (Slc.v s96)]⟩ 105) fun r102 w103 =>
  (∃ s104, w103.cell? (a98.add 1) = some (Slc.v s104) /\
  (Slc.v s104) = (Slc.v s99)) /\
  aK 3 105 [(.int .i64 (0 : Int)), (.int .i64 (0 : Int)), (Slc.v ⟨none, 0, 0⟩)] w103 s99 (.slc (⟨(some ⟨r102, 0, none⟩), 1, 1⟩ : Slc)) fun s105 w106 =>
  needSome n1 fun a107 =>
  az w106 (a107.add 1) 1 /\ ∀ w108, w108 = w106.setCell (a107.add 1) (Slc.v s105) ->
  needSome n1 fun a109 =>
  ∃ s110, w108.cell? (a109.add 1) = some (Slc.v s110) /\
  BIf (decide ((32 : Int) < (s110.l : Int))) (
  needSome n1 fun a111 =>
  ∃ s112, w108.cell? (a111.add 1) = some (Slc.v s112) /\
  Calls Tryz.prog cA ⟨[(Slc.v s112), (.int .i64 (0 : Int)), (.int .i64 (1 : Int))]⟩ w108 fun e113 w114 =>
  ∃ s115, e113 = .returned (Slc.v s115) /\
  needSome n1 fun a116 =>
  az w114 (a116.add 1) 1 /\ ∀ w117, w117 = w114.setCell (a116.add 1) (Slc.v s115) ->
  Calls Tryz.prog ar ⟨[(Slc.v s96)]⟩ w117 fun e118 w119 =>
  ∃ s120, e118 = .returned (Slc.v s120) /\
  K (.tuple ⟨[(Slc.v s120), (.bool true)]⟩) w119) (
  Calls Tryz.prog ar ⟨[(Slc.v s96)]⟩ w108 fun e121 w122 =>
  ∃ s123, e121 = .returned (Slc.v s123) /\
  K (.tuple ⟨[(Slc.v s123), (.bool true)]⟩) w122)))) /\
  (
  aH w67.drew (.cells ⟨[(.int .i64 (0 : Int)), (.int .i64 (0 : Int)), (.int .i64 (0 : Int)), (Slc.v ⟨none, 0, 0⟩)]⟩ 65) fun r124 w125 =>
  (∃ n126, w125.cell? ⟨r19, 0, none⟩ = some (.int .i64 n126) /\
  (Value.int .i64 n126) = (Value.int .i64 n71)) /\
  Calls Tryz.prog eo ⟨[e64]⟩ w125 fun e127 w128 =>
  ∃ n129, e127 = .returned (.int .i64 n129) /\
  (∃ n130, w128.cell? ⟨r19, 0, none⟩ = some (.int .i64 n130) /\
  (Value.int .i64 n130) = (Value.int .i64 n71)) /\
  az w128 ⟨r124, 0, none⟩ 4 /\ ∀ w131, w131 = setCells w128 ⟨r124, 0, none⟩ 0 [(.int .i64 n71), (.int .i64 n129), (.int .i64 (0 : Int)), (Slc.v ⟨none, 0, 0⟩)] ->
  ∃ J132 : World -> Prop,
  (
  isI e64 /\
  BIf (isNilI e64) (
  az w131 ⟨r124, 2, none⟩ 1 /\ ∀ w133, w133 = w131.setCell ⟨r124, 2, none⟩ (.int .i64 n62) ->
  az w133 ⟨r124, 3, none⟩ 1 /\ ∀ w134, w134 = w133.setCell ⟨r124, 3, none⟩ (Slc.v s63) ->
  J132 w134) (
  J132 w131)) /\ (
  ∀ w135 : World, J132 w135 -> ∀ _ _ _ _ _ _ : Value,
  ∃ n142 : Int, ∃ n143 : Int, ∃ n144 : Int, ∃ s145 : Slc, rowAt w135 ⟨r124, 0, none⟩ 0 [(.int .i64 n142), (.int .i64 n143), (.int .i64 n144), (Slc.v s145)] /\
  Calls Tryz.prog ia ⟨[(.agg ⟨[(.int .i64 n142), (.int .i64 n143), (.int .i64 n144), (Slc.v s145)]⟩)]⟩ w135 fun e146 w147 =>
  ∃ s148 : Slc, ∃ e149, e146 = .returned (.tuple ⟨[(Slc.v s148), e149]⟩) /\
  isI e149 /\
  BIf (!isNilI e149) (
  K (.tuple ⟨[(Slc.v ⟨none, 0, 0⟩), (.bool false)]⟩) w147) (
  needSome n1 fun a150 =>
  ∃ s151, w147.drew.cell? (a150.add 1) = some (Slc.v s151) /\
  ∃ n152, w147.drew.cell? ⟨r4, 0, none⟩ = some (.int .i64 n152) /\
  ∃ n153, w147.drew.cell? ⟨r19, 0, none⟩ = some (.int .i64 n153) /\
  aH w147.drew (.cells ⟨[(.int .i64 n152), (.int .i64 n153), (Slc.v s148)]⟩ 105) fun r154 w155 =>
  (∃ s156, w155.cell? (a150.add 1) = some (Slc.v s156) /\
  (Slc.v s156) = (Slc.v s151)) /\
  aK 3 105 [(.int .i64 (0 : Int)), (.int .i64 (0 : Int)), (Slc.v ⟨none, 0, 0⟩)] w155 s151 (.slc (⟨(some ⟨r154, 0, none⟩), 1, 1⟩ : Slc)) fun s157 w158 =>
  needSome n1 fun a159 =>
  az w158 (a159.add 1) 1 /\ ∀ w160, w160 = w158.setCell (a159.add 1) (Slc.v s157) ->
  needSome n1 fun a161 =>
  ∃ s162, w160.cell? (a161.add 1) = some (Slc.v s162) /\
  BIf (decide ((32 : Int) < (s162.l : Int))) (
  needSome n1 fun a163 =>
  ∃ s164, w160.cell? (a163.add 1) = some (Slc.v s164) /\
  Calls Tryz.prog cA ⟨[(Slc.v s164), (.int .i64 (0 : Int)), (.int .i64 (1 : Int))]⟩ w160 fun e165 w166 =>
  ∃ s167, e165 = .returned (Slc.v s167) /\
  needSome n1 fun a168 =>
  az w166 (a168.add 1) 1 /\ ∀ w169, w169 = w166.setCell (a168.add 1) (Slc.v s167) ->
  Calls Tryz.prog ar ⟨[(Slc.v s148)]⟩ w169 fun e170 w171 =>
  ∃ s172, e170 = .returned (Slc.v s172) /\
  K (.tuple ⟨[(Slc.v s172), (.bool true)]⟩) w171) (
  Calls Tryz.prog ar ⟨[(Slc.v s148)]⟩ w160 fun e173 w174 =>
  ∃ s175, e173 = .returned (Slc.v s175) /\
  K (.tuple ⟨[(Slc.v s175), (.bool true)]⟩) w174)))))))
theorem pN (n1 : Option Addr) (from2 : Int) (b3 : Slc) {w : World} {R : Ending -> World -> Prop} (h : l6 n1 from2 b3 w fun v w' => R (.returned v) w') : Calls Tryz.prog cl ⟨[(.pointer n1), (.int .i64 from2), (Slc.v b3)]⟩ w R :=
  ab (ann := (.two .none (.two .none (.cut [] ([6, 7] ++ List.range' 24 12) .none (.two .none (.two .none (.two .none (.two .none (.two .none (.cut [] [71, 72, 73, 74, 75, 76] .none .none)))))))))) ah mixed Tryz.func9 (Eq.mp (by kernel_rfl) h)
def pZ (first1 : Int) (w : World) (K : Value -> World -> Prop) : Prop :=
  BIf (decide (first1 < (0 : Int))) (
  ∃ v2, w.drew.cell? ⟨aD, 0, none⟩ = some v2 /\
  K (.tuple ⟨[(.pointer none), v2]⟩) w.drew) (
  BIf (decide ((1073741824 : Int) < first1)) (
  ∃ v3, w.drew.cell? ⟨aD, 0, none⟩ = some v3 /\
  K (.tuple ⟨[(.pointer none), v3]⟩) w.drew) (
  aH w (.cells ⟨[(.int .i64 first1), (Slc.v ⟨none, 0, 0⟩), (.int .i64 (0 : Int)), (.int .i64 (0 : Int)), (.int .i64 (0 : Int)), (.int .i64 (0 : Int)), (Slc.v ⟨none, 0, 0⟩), (.bool false)]⟩ 125) fun r4 w5 =>
  K (.tuple ⟨[(.pointer (some ⟨r4, 0, none⟩)), .nilIface]⟩) w5))
theorem tu (first1 : Int) {w : World} {R : Ending -> World -> Prop} (h : pZ first1 w fun v w' => R (.returned v) w') : Calls Tryz.prog fW ⟨[(.int .i64 first1)]⟩ w R :=
  ab (ann := .none) ah mixed Tryz.func14 (Eq.mp (by kernel_rfl) h)
def nG (a1 : Option Addr) (w : World) (K : Value -> World -> Prop) : Prop :=
  needSome a1 fun a2 =>
  ∃ s3, w.cell? (a2.add 1) = some (Slc.v s3) /\
  K (.bool (!Option.isNone (s3.p : Option Addr))) w
theorem qF (a1 : Option Addr) {w : World} {R : Ending -> World -> Prop} (h : nG a1 w fun v w' => R (.returned v) w') : Calls Tryz.prog bM ⟨[(.pointer a1)]⟩ w R :=
  ab (ann := .none) ah mixed Tryz.func23 (Eq.mp (by kernel_rfl) h)
def oU (a1 : Option Addr) (kind2 : Int) (epoch3 : Int) (at4 : Int) (data5 : Slc) (w : World) (K : Value -> World -> Prop) : Prop :=
  Calls Tryz.prog bM ⟨[(.pointer a1)]⟩ w fun e6 w7 =>
  ∃ b8, e6 = .returned (.bool b8) /\
  BIf b8 (
  ∃ v9, w7.drew.cell? ⟨gS, 0, none⟩ = some v9 /\
  K (.tuple ⟨[(Slc.v ⟨none, 0, 0⟩), v9]⟩) w7.drew) (
  needSome a1 fun a10 =>
  ∃ n11, w7.cell? a10 = some (.int .i64 n11) /\
  BIf (decide ((1073741824 : Int) < n11)) (
  ∃ v12, w7.drew.cell? ⟨gH, 0, none⟩ = some v12 /\
  K (.tuple ⟨[(Slc.v ⟨none, 0, 0⟩), v12]⟩) w7.drew) (
  needSome a1 fun a13 =>
  ∃ n14, w7.cell? a13 = some (.int .i64 n14) /\
  Calls Tryz.prog oC ⟨[(.agg ⟨[(.int .i64 n14), (.int .i64 kind2), (.int .i64 epoch3), (.int .i64 at4), (Slc.v data5)]⟩)]⟩ w7 fun e15 w16 =>
  ∃ s17 : Slc, ∃ e18, e15 = .returned (.tuple ⟨[(Slc.v s17), e18]⟩) /\
  isI e18 /\
  BIf (!isNilI e18) (
  K (.tuple ⟨[(Slc.v ⟨none, 0, 0⟩), e18]⟩) w16) (
  needSome a1 fun a19 =>
  ∃ n20, w16.cell? a19 = some (.int .i64 n20) /\
  needSome a1 fun a21 =>
  az w16 (a21.add 1) 1 /\ ∀ w22, w22 = w16.setCell (a21.add 1) (Slc.v s17) ->
  needSome a1 fun a23 =>
  az w22 (a23.add 2) 1 /\ ∀ w24, w24 = w22.setCell (a23.add 2) (.int .i64 n20) ->
  needSome a1 fun a25 =>
  az w24 (a25.add 7) 1 /\ ∀ w26, w26 = w24.setCell (a25.add 7) (.bool false) ->
  needSome a1 fun a27 =>
  ∃ n28, w26.cell? a27 = some (.int .i64 n28) /\
  inR .i64 (n28 + (1 : Int)) /\
  needSome a1 fun a29 =>
  az w26 a29 1 /\ ∀ w30, w30 = w26.setCell a29 (.int .i64 (n28 + (1 : Int))) ->
  Calls Tryz.prog ar ⟨[(Slc.v s17)]⟩ w30 fun e31 w32 =>
  ∃ s33, e31 = .returned (Slc.v s33) /\
  K (.tuple ⟨[(Slc.v s33), .nilIface]⟩) w32)))
theorem rK (a1 : Option Addr) (kind2 : Int) (epoch3 : Int) (at4 : Int) (data5 : Slc) {w : World} {R : Ending -> World -> Prop} (h : oU a1 kind2 epoch3 at4 data5 w fun v w' => R (.returned v) w') : Calls Tryz.prog fw ⟨[(.pointer a1), (.int .i64 kind2), (.int .i64 epoch3), (.int .i64 at4), (Slc.v data5)]⟩ w R :=
  ab (ann := .none) ah mixed Tryz.func16 (Eq.mp (by kernel_rfl) h)
def l7 (a1 : Option Addr) (w : World) (K : Value -> World -> Prop) : Prop :=
  needSome a1 fun a2 =>
  ∃ s3, w.cell? (a2.add 1) = some (Slc.v s3) /\
  Calls Tryz.prog ar ⟨[(Slc.v s3)]⟩ w fun e4 w5 =>
  ∃ s6, e4 = .returned (Slc.v s6) /\
  Calls Tryz.prog bM ⟨[(.pointer a1)]⟩ w5 fun e7 w8 =>
  ∃ b9, e7 = .returned (.bool b9) /\
  K (.tuple ⟨[(Slc.v s6), (.bool b9)]⟩) w8
theorem pO (a1 : Option Addr) {w : World} {R : Ending -> World -> Prop} (h : l7 a1 w fun v w' => R (.returned v) w') : Calls Tryz.prog gi ⟨[(.pointer a1)]⟩ w R :=
  ab (ann := .none) ah mixed Tryz.func19 (Eq.mp (by kernel_rfl) h)
def nH (a1 : Option Addr) (b2 : Slc) (w : World) (K : Value -> World -> Prop) : Prop :=
  Calls Tryz.prog jN ⟨[(Slc.v b2)]⟩ w fun e3 w4 =>
  ∃ x5 : Int, ∃ x6 : Int, ∃ x7 : Int, ∃ x8 : Int, ∃ x9 : Slc, ∃ x10 : Int, ∃ x11 : Int, ∃ x12 : Int, ∃ x13 : Slc, ∃ b14 : Bool, ∃ e15, e3 = .returned (.tuple ⟨[(.agg ⟨[(.int .i64 x5), (.int .i64 x6), (.int .i64 x7), (.int .i64 x8), (Slc.v x9)]⟩), (.agg ⟨[(.int .i64 x10), (.int .i64 x11), (.int .i64 x12), (Slc.v x13)]⟩), (.bool b14), e15]⟩) /\
  aH w4 (.cells ⟨[(.int .i64 (0 : Int)), (.int .i64 (0 : Int)), (.int .i64 (0 : Int)), (.int .i64 (0 : Int)), (Slc.v ⟨none, 0, 0⟩)]⟩ 30) fun r16 w17 =>
  aH w17 (.cells ⟨[(.int .i64 (0 : Int)), (.int .i64 (0 : Int)), (.int .i64 (0 : Int)), (Slc.v ⟨none, 0, 0⟩)]⟩ 65) fun r18 w19 =>
  az w19 ⟨r16, 0, none⟩ 5 /\ ∀ w20, w20 = setCells w19 ⟨r16, 0, none⟩ 0 [(.int .i64 x5), (.int .i64 x6), (.int .i64 x7), (.int .i64 x8), (Slc.v x9)] ->
  az w20 ⟨r18, 0, none⟩ 4 /\ ∀ w21, w21 = setCells w20 ⟨r18, 0, none⟩ 0 [(.int .i64 x10), (.int .i64 x11), (.int .i64 x12), (Slc.v x13)] ->
  ∃ J22 : World -> Prop,
  (
  isI e15 /\
  BIf (!isNilI e15) (
  K (.bool false) w21.drew) (
  BIf b14 (
  K (.bool false) w21.drew) (
  Calls Tryz.prog bM ⟨[(.pointer a1)]⟩ w21.drew fun e23 w24 =>
  ∃ b25, e23 = .returned (.bool b25) /\
  BIf (!b25) (
  K (.bool false) w24) (
  ∃ n26, w24.cell? ⟨r18, 0, none⟩ = some (.int .i64 n26) /\
  needSome a1 fun a27 =>
  ∃ n28, w24.cell? (a27.add 2) = some (.int .i64 n28) /\
  BIf (!decide (n26 = n28)) (
  K (.bool false) w24) (
  J22 w24))))) /\ (
  ∀ w29 : World, J22 w29 -> ∀ _ _ _ _ _ _ _ _ _ _ _ _ _ _ _ _ _ _ _ _ : Value,
  ∃ n50 : Int, ∃ n51 : Int, ∃ n52 : Int, ∃ s53 : Slc, rowAt w29.drew ⟨r18, 0, none⟩ 0 [(.int .i64 n50), (.int .i64 n51), (.int .i64 n52), (Slc.v s53)] /\
  needSome a1 fun a54 =>
  az w29.drew (a54.add 1) 1 /\ ∀ w55, w55 = w29.drew.setCell (a54.add 1) (Slc.v ⟨none, 0, 0⟩) ->
  (∃ n56 : Int, ∃ n57 : Int, ∃ n58 : Int, ∃ s59 : Slc, rowAt w55 ⟨r18, 0, none⟩ 0 [(.int .i64 n56), (.int .i64 n57), (.int .i64 n58), (Slc.v s59)] /\
  (Value.agg ⟨[(Value.int .i64 n56), (Value.int .i64 n57), (Value.int .i64 n58), (Slc.v s59)]⟩) = (Value.agg ⟨[(Value.int .i64 n50), (Value.int .i64 n51), (Value.int .i64 n52), (Slc.v s53)]⟩)) /\
  needSome a1 fun a60 =>
  az w55 (a60.add 3) 4 /\ ∀ w61, w61 = setCells w55 (a60.add 3) 0 [(.int .i64 n50), (.int .i64 n51), (.int .i64 n52), (Slc.v s53)] ->
  needSome a1 fun a62 =>
  az w61 (a62.add 7) 1 /\ ∀ w63, w63 = w61.setCell (a62.add 7) (.bool true) ->
  K (.bool true) w63)
theorem qG (a1 : Option Addr) (b2 : Slc) {w : World} {R : Ending -> World -> Prop} (h : nH a1 b2 w fun v w' => R (.returned v) w') : Calls Tryz.prog eM ⟨[(.pointer a1), (Slc.v b2)]⟩ w R :=
  ab (ann := (.two .none (.two .none (.cut [] ([4] ++ List.range' 16 19) .none .none)))) ah mixed Tryz.func21 (Eq.mp (by kernel_rfl) h)
def nI (a1 : Option Addr) (w : World) (K : Value -> World -> Prop) : Prop :=
  aH w (.cells ⟨[(.int .i64 (0 : Int)), (.int .i64 (0 : Int)), (.int .i64 (0 : Int)), (Slc.v ⟨none, 0, 0⟩)]⟩ 65) fun r2 w3 =>
  needSome a1 fun a4 =>
  ∃ b5, w3.cell? (a4.add 7) = some (.bool b5) /\
  BIf (!b5) (
  az w3 ⟨r2, 0, none⟩ 4 /\ ∀ w6, w6 = setCells w3 ⟨r2, 0, none⟩ 0 [(.int .i64 (0 : Int)), (.int .i64 (0 : Int)), (.int .i64 (0 : Int)), (Slc.v ⟨none, 0, 0⟩)] ->
  ∃ n7 : Int, ∃ n8 : Int, ∃ n9 : Int, ∃ s10 : Slc, rowAt w6 ⟨r2, 0, none⟩ 0 [(.int .i64 n7), (.int .i64 n8), (.int .i64 n9), (Slc.v s10)] /\
  K (.tuple ⟨[(.agg ⟨[(.int .i64 n7), (.int .i64 n8), (.int .i64 n9), (Slc.v s10)]⟩), (.bool false)]⟩) w6) (
  needSome a1 fun a11 =>
  ∃ n12 : Int, ∃ n13 : Int, ∃ n14 : Int, ∃ s15 : Slc, rowAt w3 (a11.add 3) 0 [(.int .i64 n12), (.int .i64 n13), (.int .i64 n14), (Slc.v s15)] /\
  aH w3 (.cells ⟨[(.int .i64 (0 : Int)), (.int .i64 (0 : Int)), (.int .i64 (0 : Int)), (Slc.v ⟨none, 0, 0⟩)]⟩ 65) fun r16 w17 =>
  az w17 ⟨r16, 0, none⟩ 4 /\ ∀ w18, w18 = setCells w17 ⟨r16, 0, none⟩ 0 [(.int .i64 n12), (.int .i64 n13), (.int .i64 n14), (Slc.v s15)] ->
  ∃ s19, w18.cell? ⟨r16, 3, none⟩ = some (Slc.v s19) /\
  Calls Tryz.prog ar ⟨[(Slc.v s19)]⟩ w18 fun e20 w21 =>
  ∃ s22, e20 = .returned (Slc.v s22) /\
  az w21 ⟨r16, 3, none⟩ 1 /\ ∀ w23, w23 = w21.setCell ⟨r16, 3, none⟩ (Slc.v s22) ->
  ∃ n24 : Int, ∃ n25 : Int, ∃ n26 : Int, ∃ s27 : Slc, rowAt w23 ⟨r16, 0, none⟩ 0 [(.int .i64 n24), (.int .i64 n25), (.int .i64 n26), (Slc.v s27)] /\
  az w23 ⟨r2, 0, none⟩ 4 /\ ∀ w28, w28 = setCells w23 ⟨r2, 0, none⟩ 0 [(.int .i64 n24), (.int .i64 n25), (.int .i64 n26), (Slc.v s27)] ->
  ∃ n29 : Int, ∃ n30 : Int, ∃ n31 : Int, ∃ s32 : Slc, rowAt w28 ⟨r2, 0, none⟩ 0 [(.int .i64 n29), (.int .i64 n30), (.int .i64 n31), (Slc.v s32)] /\
  K (.tuple ⟨[(.agg ⟨[(.int .i64 n29), (.int .i64 n30), (.int .i64 n31), (Slc.v s32)]⟩), (.bool true)]⟩) w28)
theorem qH (a1 : Option Addr) {w : World} {R : Ending -> World -> Prop} (h : nI a1 w fun v w' => R (.returned v) w') : Calls Tryz.prog gx ⟨[(.pointer a1)]⟩ w R :=
  ab (ann := .none) ah mixed Tryz.func22 (Eq.mp (by kernel_rfl) h)
end Go.D

