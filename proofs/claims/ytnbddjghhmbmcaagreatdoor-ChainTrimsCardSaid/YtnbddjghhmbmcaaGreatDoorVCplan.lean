/-
  WHAT IS PROVED: verification conditions of functions of this program, each with its soundness. No further conditions.
-/
import Derived.Test.YtnbddjghhmbmcaaGreatDoorBase
set_option linter.unusedSimpArgs false
set_option maxRecDepth 100000
set_option linter.unusedVariables false
namespace Go.D
open Go Go.Proofs
def lg (s1 : Slc) (n2 : Int) (w : World) (K : Value -> World -> Prop) : Prop :=
  ∃ J3 : World -> Prop,
  (
  BIf (decide (n2 < (0 : Int))) (
  False) (
  J3 w)) /\ (
  ∀ w4 : World, J3 w4 -> ∀ _ _ _ : Value,
  inR .i64 ((s1.c : Int) - (s1.l : Int)) /\
  inR .i64 (n2 - ((s1.c : Int) - (s1.l : Int))) /\
  BIf (decide ((0 : Int) < (n2 - ((s1.c : Int) - (s1.l : Int))))) (
  0 <= (0 : Int) /\ (0 : Int) <= (s1.c : Int) /\ (s1.c : Int) <= (s1.c : Int) /\ (s1.c : Int) <= (s1.c : Int) /\
  vZ 1 3 [(.int .i64 (0 : Int))] w4 (Slc.sub s1 1 0 s1.c s1.c) (n2 - ((s1.c : Int) - (s1.l : Int))) fun s9 w10 =>
  0 <= (0 : Int) /\ (0 : Int) <= (s1.l : Int) /\ (s1.l : Int) <= (s9.c : Int) /\ (s9.c : Int) <= (s9.c : Int) /\
  K (Slc.v (Slc.sub s9 1 0 s1.l s9.c)) w10) (
  K (Slc.v s1) w4))
theorem nM (s1 : Slc) (n2 : Int) {w : World} {R : Ending -> World -> Prop} (h : lg s1 n2 w fun v w' => R (.returned v) w') : Calls Tryz.prog fv ⟨[(Slc.v s1), (.int .i64 n2)]⟩ w R :=
  ab (ann := (.two .none (.cut [] [5, 6, 7] .none .none))) ag mixed Tryz.func82 (Eq.mp (by kernel_rfl) h)
def jq (slices1 : Slc) (w : World) (K : Value -> World -> Prop) : Prop :=
  ∃ (I2 : (Int) -> (Int) -> World -> Prop) (mu3 : (Int) -> (Int) -> World -> Nat), I2 ((0 : Int)) ((0 : Int)) w /\ (
  ∀ size4 : Int, ∀ i5 : Int, ∀ w6 : World, I2 size4 i5 w6 -> ∀ _ _ _ _ _ _ _ _ _ _ _ _ : Value,
  BIf (decide (i5 < (slices1.l : Int))) (
  needSome slices1.p fun a19 =>
  0 <= i5 /\ i5 < (slices1.l : Int) /\
  ∃ s20, w6.cell? (Addr.add a19 ((Int.toNat i5) * 1)) = some (Slc.v s20) /\
  inR .i64 (size4 + (s20.l : Int)) /\
  BIf (decide ((size4 + (s20.l : Int)) < (0 : Int))) (
  False) (
  inR .i64 (i5 + (1 : Int)) /\
  (I2 ((size4 + (s20.l : Int))) ((i5 + (1 : Int))) w6 /\ mu3 ((size4 + (s20.l : Int))) ((i5 + (1 : Int))) w6 < mu3 size4 i5 w6))) (
  Calls Tryz.prog fv ⟨[(Slc.v ⟨none, 0, 0⟩), (.int .i64 size4)]⟩ w6 fun e21 w22 =>
  ∃ s23, e21 = .returned (Slc.v s23) /\
  ∃ (I24 : (Slc) -> (Int) -> World -> Prop) (mu25 : (Slc) -> (Int) -> World -> Nat), I24 (s23) ((0 : Int)) w22 /\ (
  ∀ newslice26 : Slc, ∀ i27 : Int, ∀ w28 : World, I24 newslice26 i27 w28 -> ∀ _ _ _ _ _ _ _ _ : Value,
  BIf (decide (i27 < (slices1.l : Int))) (
  needSome slices1.p fun a37 =>
  0 <= i27 /\ i27 < (slices1.l : Int) /\
  ∃ s38, w28.cell? (Addr.add a37 ((Int.toNat i27) * 1)) = some (Slc.v s38) /\
  aM 1 3 [(.int .i64 (0 : Int))] w28 newslice26 (.slc s38) fun s39 w40 =>
  inR .i64 (i27 + (1 : Int)) /\
  (I24 (s39) ((i27 + (1 : Int))) w40 /\ mu25 (s39) ((i27 + (1 : Int))) w40 < mu25 newslice26 i27 w28)) (
  K (Slc.v newslice26) w28))))
theorem ma (slices1 : Slc) {w : World} {R : Ending -> World -> Prop} (h : jq slices1 w fun v w' => R (.returned v) w') : Calls Tryz.prog eG ⟨[(Slc.v slices1)]⟩ w R :=
  ab (ann := (.two .none (.two .none (.two (.two .none (.one (.loop [(3, (Sh.int .i64)), (11, (Sh.int .i64))] ([5] ++ List.range' 12 11) .none))) (.two .none (.two (.two .none (.one (.loop [(6, Sh.slc), (27, (Sh.int .i64))] [8, 28, 29, 30, 31, 32, 33, 34] .none))) .none)))))) ag mixed Tryz.func51 (Eq.mp (by kernel_rfl) h)
def wQ (p1 : Int) (p2 : Slc) (w : World) (K : Value -> World -> Prop) : Prop :=
  aP w (.cells ⟨[(.int .i64 p1), (Slc.v p2)]⟩ 24) fun r3 w4 =>
  ∃ s5, w4.cell? ⟨r3, 1, none⟩ = some (Slc.v s5) /\
  Calls Tryz.prog eG ⟨[(Slc.v s5)]⟩ w4 fun e6 w7 =>
  ∃ s8, e6 = .returned (Slc.v s8) /\
  Calls Tryz.prog fq ⟨[(Slc.v s8)]⟩ w7 fun e9 w10 =>
  e9 = .returned (.tuple #[]) /\
  K (Slc.v s8) w10
theorem wS (p1 : Int) (p2 : Slc) {w : World} {R : Ending -> World -> Prop} (h : wQ p1 p2 w fun v w' => R (.returned v) w') : Calls Tryz.prog jc ⟨[(.agg ⟨[(.int .i64 p1), (Slc.v p2)]⟩)]⟩ w R :=
  ab (ann := .none) ag mixed Tryz.func21 (Eq.mp (by kernel_rfl) h)
def j6 (s1 : Slc) (w : World) (K : Value -> World -> Prop) : Prop :=
  BIf (Option.isNone (s1.p : Option Addr)) (
  K (Slc.v ⟨none, 0, 0⟩) w) (
  aP w (.cells ⟨[]⟩ 3) fun r2 w3 =>
  aM 1 3 [(.int .i64 (0 : Int))] w3 (⟨(some ⟨r2, 0, none⟩), 0, 0⟩ : Slc) (.slc s1) fun s4 w5 =>
  K (Slc.v s4) w5)
theorem mS (s1 : Slc) {w : World} {R : Ending -> World -> Prop} (h : j6 s1 w fun v w' => R (.returned v) w') : Calls Tryz.prog dm ⟨[(Slc.v s1)]⟩ w R :=
  ab (ann := .none) ag mixed Tryz.func23 (Eq.mp (by kernel_rfl) h)
def iK (s1 : Slc) (w : World) (K : Value -> World -> Prop) : Prop :=
  BIf (decide ((s1.l : Int) < (2 : Int))) (
  K (Slc.v s1) w) (
  ∃ (I2 : (Int) -> World -> Prop) (mu3 : (Int) -> World -> Nat), I2 ((1 : Int)) w /\ (
  ∀ k4 : Int, ∀ w5 : World, I2 k4 w5 -> ∀ _ _ _ _ _ _ _ _ _ _ _ _ _ _ _ _ _ _ _ _ _ _ _ _ _ _ _ _ _ _ _ _ _ _ _ _ _ _ _ _ _ _ _ _ _ _ _ _ _ _ _ _ _ : Value,
  BIf (decide (k4 < (s1.l : Int))) (
  needSome s1.p fun a59 =>
  0 <= k4 /\ k4 < (s1.l : Int) /\
  ∃ n60, w5.drew.cell? (Addr.add a59 ((Int.toNat k4) * 1)) = some (.int .i64 n60) /\
  inR .i64 (k4 - (1 : Int)) /\
  needSome s1.p fun a61 =>
  0 <= (k4 - (1 : Int)) /\ (k4 - (1 : Int)) < (s1.l : Int) /\
  ∃ n62, w5.drew.cell? (Addr.add a61 ((Int.toNat (k4 - (1 : Int))) * 1)) = some (.int .i64 n62) /\
  BIf (decide (n60 = n62)) (
  0 <= k4 /\ k4 <= (s1.l : Int) /\ (s1.l : Int) <= (s1.c : Int) /\ (s1.c : Int) <= (s1.c : Int) /\
  ∃ (I64 : (Int) -> (Int) -> World -> Prop) (mu65 : (Int) -> (Int) -> World -> Nat), I64 (k4) ((1 : Int)) w5.drew /\ (
  ∀ k66 : Int, ∀ i67 : Int, ∀ w68 : World, I64 k66 i67 w68 -> ∀ _ _ _ _ _ _ _ _ _ _ _ _ _ _ _ _ _ _ _ _ _ _ _ _ _ : Value,
  BIf (decide (i67 < (((Slc.sub s1 1 (Int.toNat k4) s1.l s1.c).l : Nat) : Int))) (
  needSome (Slc.sub s1 1 (Int.toNat k4) s1.l s1.c).p fun a94 =>
  0 <= i67 /\ i67 < (((Slc.sub s1 1 (Int.toNat k4) s1.l s1.c).l : Nat) : Int) /\
  ∃ n95, w68.drew.cell? (Addr.add a94 ((Int.toNat i67) * 1)) = some (.int .i64 n95) /\
  inR .i64 (i67 - (1 : Int)) /\
  needSome (Slc.sub s1 1 (Int.toNat k4) s1.l s1.c).p fun a96 =>
  0 <= (i67 - (1 : Int)) /\ (i67 - (1 : Int)) < (((Slc.sub s1 1 (Int.toNat k4) s1.l s1.c).l : Nat) : Int) /\
  ∃ n97, w68.drew.cell? (Addr.add a96 ((Int.toNat (i67 - (1 : Int))) * 1)) = some (.int .i64 n97) /\
  BIf (!decide (n95 = n97)) (
  needSome (Slc.sub s1 1 (Int.toNat k4) s1.l s1.c).p fun a98 =>
  0 <= i67 /\ i67 < (((Slc.sub s1 1 (Int.toNat k4) s1.l s1.c).l : Nat) : Int) /\
  ∃ n99, w68.drew.cell? (Addr.add a98 ((Int.toNat i67) * 1)) = some (.int .i64 n99) /\
  needSome s1.p fun a100 =>
  0 <= k66 /\ k66 < (s1.l : Int) /\
  aJ w68.drew (Addr.add a100 ((Int.toNat k66) * 1)) 1 /\ ∀ w101, w101 = w68.drew.setCell (Addr.add a100 ((Int.toNat k66) * 1)) (.int .i64 n99) ->
  inR .i64 (k66 + (1 : Int)) /\
  inR .i64 (i67 + (1 : Int)) /\
  (I64 ((k66 + (1 : Int))) ((i67 + (1 : Int))) w101 /\ mu65 ((k66 + (1 : Int))) ((i67 + (1 : Int))) w101 < mu65 k66 i67 w68)) (
  inR .i64 (i67 + (1 : Int)) /\
  (I64 (k66) ((i67 + (1 : Int))) w68.drew /\ mu65 (k66) ((i67 + (1 : Int))) w68.drew < mu65 k66 i67 w68))) (
  0 <= k66 /\ k66 <= (s1.l : Int) /\ (s1.l : Int) <= (s1.c : Int) /\ (s1.c : Int) <= (s1.c : Int) /\
  iy [(.int .i64 (0 : Int))] w68 (Slc.sub s1 1 (Int.toNat k66) s1.l s1.c) fun w103 =>
  0 <= (0 : Int) /\ (0 : Int) <= k66 /\ k66 <= (s1.c : Int) /\ (s1.c : Int) <= (s1.c : Int) /\
  K (Slc.v (Slc.sub s1 1 0 (Int.toNat k66) s1.c)) w103))) (
  inR .i64 (k4 + (1 : Int)) /\
  (I2 ((k4 + (1 : Int))) w5.drew /\ mu3 ((k4 + (1 : Int))) w5.drew < mu3 k4 w5))) (
  K (Slc.v s1) w5)))
theorem ly (s1 : Slc) {w : World} {R : Ending -> World -> Prop} (h : iK s1 w fun v w' => R (.returned v) w') : Calls Tryz.prog ei ⟨[(Slc.v s1)]⟩ w R :=
  ab (ann := (.two .none (.two .none (.two (.two .none (.one (.loop [(3, (Sh.int .i64))] ([2, 4, 5] ++ List.range' 10 50) (.two .none (.two (.one (.two .none (.two (.two .none (.two (.two .none (.one (.loop [(3, (Sh.int .i64)), (5, (Sh.int .i64))] (List.range' 29 25) .none))) .none)) .none))) .none))))) .none)))) ag mixed Tryz.func22 (Eq.mp (by kernel_rfl) h)
def jr (u1 : Int) (w : World) (K : Value -> World -> Prop) : Prop :=
  BIf (decide (u1 < (0 : Int))) (
  K (.bool true) w) (
  K (.bool (decide ((12 : Int) <= u1))) w)
theorem mb (u1 : Int) {w : World} {R : Ending -> World -> Prop} (h : jr u1 w fun v w' => R (.returned v) w') : Calls Tryz.prog bY ⟨[(.int .i64 u1)]⟩ w R :=
  ab (ann := .none) ag mixed Tryz.func50 (Eq.mp (by kernel_rfl) h)
def bN (s1 : Slc) (w : World) (K : Value -> World -> Prop) : Prop :=
  Calls Tryz.prog bx ⟨[(Slc.v s1), (.func (.func 50) ⟨[]⟩ ⟨[]⟩)]⟩ w fun e2 w3 =>
  ∃ n4, e2 = .returned (.int .i64 n4) /\
  K (.bool (decide ((0 : Int) <= n4))) w3
theorem dE (s1 : Slc) {w : World} {R : Ending -> World -> Prop} (h : bN s1 w fun v w' => R (.returned v) w') : Calls Tryz.prog aW ⟨[(Slc.v s1), (.func (.func 50) ⟨[]⟩ ⟨[]⟩)]⟩ w R :=
  ab (ann := .none) ag mixed Tryz.func49 (Eq.mp (by kernel_rfl) h)
def bZ (s1 : Slc) (w : World) (K : Value -> World -> Prop) : Prop :=
  ∃ (I2 : (Int) -> World -> Prop) (mu3 : (Int) -> World -> Nat), I2 ((0 : Int)) w /\ (
  ∀ i4 : Int, ∀ w5 : World, I2 i4 w5 -> ∀ _ _ _ _ _ _ _ _ _ _ _ _ : Value,
  BIf (decide (i4 < (s1.l : Int))) (
  needSome s1.p fun a18 =>
  0 <= i4 /\ i4 < (s1.l : Int) /\
  ∃ n19, w5.cell? (Addr.add a18 ((Int.toNat i4) * 1)) = some (.int .i64 n19) /\
  Calls Tryz.prog bY ⟨[(.int .i64 n19)]⟩ w5 fun e20 w21 =>
  ∃ b22, e20 = .returned (.bool b22) /\
  BIf b22 (
  K (.int .i64 i4) w21) (
  inR .i64 (i4 + (1 : Int)) /\
  (I2 ((i4 + (1 : Int))) w21 /\ mu3 ((i4 + (1 : Int))) w21 < mu3 i4 w5))) (
  K (.int .i64 (-1 : Int)) w5))
theorem ec (s1 : Slc) {w : World} {R : Ending -> World -> Prop} (h : bZ s1 w fun v w' => R (.returned v) w') : Calls Tryz.prog bx ⟨[(Slc.v s1), (.func (.func 50) ⟨[]⟩ ⟨[]⟩)]⟩ w R :=
  ab (ann := (.two .none (.two (.two .none (.one (.loop [(8, (Sh.int .i64))] ([4, 5] ++ List.range' 9 10) .none))) .none))) ag mixed Tryz.func81 (Eq.mp (by kernel_rfl) h)
def lh (c1 : Slc) (w : World) (K : Value -> World -> Prop) : Prop :=
  BIf (decide ((1 : Int) <= (c1.l : Int))) (
  BIf (decide ((c1.l : Int) <= (3 : Int))) (
  Calls Tryz.prog aW ⟨[(Slc.v c1), (.func (.func 50) ⟨[]⟩ ⟨[]⟩)]⟩ w fun e2 w3 =>
  ∃ b4, e2 = .returned (.bool b4) /\
  K (.bool (!b4)) w3) (
  K (.bool false) w)) (
  K (.bool false) w)
theorem nN (c1 : Slc) {w : World} {R : Ending -> World -> Prop} (h : lh c1 w fun v w' => R (.returned v) w') : Calls Tryz.prog fp ⟨[(Slc.v c1)]⟩ w R :=
  ab (ann := .none) ag mixed Tryz.func20 (Eq.mp (by kernel_rfl) h)
def oV (c1 : Slc) (w : World) (K : Value -> World -> Prop) : Prop :=
  Calls Tryz.prog fp ⟨[(Slc.v c1)]⟩ w fun e2 w3 =>
  ∃ b4, e2 = .returned (.bool b4) /\
  K (.bool (!b4)) w3
theorem qX (c1 : Slc) {w : World} {R : Ending -> World -> Prop} (h : oV c1 w fun v w' => R (.returned v) w') : Calls Tryz.prog dZ ⟨[(Slc.v c1)]⟩ w R :=
  ab (ann := .none) ag mixed Tryz.func19 (Eq.mp (by kernel_rfl) h)
def cj (s1 : Slc) (w : World) (K : Value -> World -> Prop) : Prop :=
  Calls Tryz.prog cV ⟨[(Slc.v s1), (.func (.func 19) ⟨[]⟩ ⟨[]⟩)]⟩ w fun e2 w3 =>
  ∃ n4, e2 = .returned (.int .i64 n4) /\
  K (.bool (decide ((0 : Int) <= n4))) w3
theorem ew (s1 : Slc) {w : World} {R : Ending -> World -> Prop} (h : cj s1 w fun v w' => R (.returned v) w') : Calls Tryz.prog cn ⟨[(Slc.v s1), (.func (.func 19) ⟨[]⟩ ⟨[]⟩)]⟩ w R :=
  ab (ann := .none) ag mixed Tryz.func18 (Eq.mp (by kernel_rfl) h)
def cD (s1 : Slc) (w : World) (K : Value -> World -> Prop) : Prop :=
  ∃ (I2 : (Int) -> World -> Prop) (mu3 : (Int) -> World -> Nat), I2 ((0 : Int)) w /\ (
  ∀ i4 : Int, ∀ w5 : World, I2 i4 w5 -> ∀ _ _ _ _ _ _ _ _ _ _ _ _ : Value,
  BIf (decide (i4 < (s1.l : Int))) (
  needSome s1.p fun a18 =>
  0 <= i4 /\ i4 < (s1.l : Int) /\
  ∃ s19, w5.cell? (Addr.add a18 ((Int.toNat i4) * 1)) = some (Slc.v s19) /\
  Calls Tryz.prog dZ ⟨[(Slc.v s19)]⟩ w5 fun e20 w21 =>
  ∃ b22, e20 = .returned (.bool b22) /\
  BIf b22 (
  K (.int .i64 i4) w21) (
  inR .i64 (i4 + (1 : Int)) /\
  (I2 ((i4 + (1 : Int))) w21 /\ mu3 ((i4 + (1 : Int))) w21 < mu3 i4 w5))) (
  K (.int .i64 (-1 : Int)) w5))
theorem eY (s1 : Slc) {w : World} {R : Ending -> World -> Prop} (h : cD s1 w fun v w' => R (.returned v) w') : Calls Tryz.prog cV ⟨[(Slc.v s1), (.func (.func 19) ⟨[]⟩ ⟨[]⟩)]⟩ w R :=
  ab (ann := (.two .none (.two (.two .none (.one (.loop [(8, (Sh.int .i64))] ([4, 5] ++ List.range' 9 10) .none))) .none))) ag mixed Tryz.func48 (Eq.mp (by kernel_rfl) h)
def sB (p1 : Int) (p2 : Slc) (w : World) (K : Value -> World -> Prop) : Prop :=
  aP w (.cells ⟨[(.int .i64 p1), (Slc.v p2)]⟩ 24) fun r3 w4 =>
  ∃ J5 : World -> Prop,
  (
  ∃ n6, w4.cell? ⟨r3, 0, none⟩ = some (.int .i64 n6) /\
  BIf (decide (n6 < (0 : Int))) (
  K (.bool false) w4) (
  ∃ n7, w4.cell? ⟨r3, 0, none⟩ = some (.int .i64 n7) /\
  BIf (decide ((1073741824 : Int) < n7)) (
  K (.bool false) w4) (
  ∃ s8, w4.cell? ⟨r3, 1, none⟩ = some (Slc.v s8) /\
  BIf (decide ((s8.l : Int) < (1 : Int))) (
  K (.bool false) w4) (
  ∃ s9, w4.cell? ⟨r3, 1, none⟩ = some (Slc.v s9) /\
  BIf (decide ((3 : Int) < (s9.l : Int))) (
  K (.bool false) w4) (
  J5 w4))))) /\ (
  ∀ w10 : World, J5 w10 -> ∀ _ _ _ _ _ _ _ _ _ _ _ _ _ _ _ _ _ _ _ _ _ : Value,
  ∃ s32, w10.cell? ⟨r3, 1, none⟩ = some (Slc.v s32) /\
  Calls Tryz.prog cn ⟨[(Slc.v s32), (.func (.func 19) ⟨[]⟩ ⟨[]⟩)]⟩ w10 fun e33 w34 =>
  ∃ b35, e33 = .returned (.bool b35) /\
  BIf b35 (
  K (.bool false) w34) (
  ∃ n36 : Int, ∃ s37 : Slc, rowAt w34 ⟨r3, 0, none⟩ 0 [(.int .i64 n36), (Slc.v s37)] /\
  Calls Tryz.prog jc ⟨[(.agg ⟨[(.int .i64 n36), (Slc.v s37)]⟩)]⟩ w34 fun e38 w39 =>
  ∃ s40, e38 = .returned (Slc.v s40) /\
  Calls Tryz.prog dm ⟨[(Slc.v s40)]⟩ w39 fun e41 w42 =>
  ∃ s43, e41 = .returned (Slc.v s43) /\
  Calls Tryz.prog ei ⟨[(Slc.v s43)]⟩ w42 fun e44 w45 =>
  ∃ s46, e44 = .returned (Slc.v s46) /\
  K (.bool (decide ((s46.l : Int) = (s40.l : Int)))) w45))
theorem tX (p1 : Int) (p2 : Slc) {w : World} {R : Ending -> World -> Prop} (h : sB p1 p2 w fun v w' => R (.returned v) w') : Calls Tryz.prog ef ⟨[(.agg ⟨[(.int .i64 p1), (Slc.v p2)]⟩)]⟩ w R :=
  ab (ann := (.two .none (.cut [] ([2] ++ List.range' 4 20) .none .none))) ag mixed Tryz.func7 (Eq.mp (by kernel_rfl) h)
def uK (p1 : Int) (p2 : Slc) (w : World) (K : Value -> World -> Prop) : Prop :=
  aP w (.cells ⟨[(.int .i64 p1), (Slc.v p2)]⟩ 24) fun r3 w4 =>
  aP w4 (.cells ⟨[(.int .i64 (0 : Int)), (Slc.v ⟨none, 0, 0⟩)]⟩ 24) fun r5 w6 =>
  ∃ n7, w6.cell? ⟨r3, 0, none⟩ = some (.int .i64 n7) /\
  aP w6 (.cells ⟨[(.int .i64 (0 : Int)), (Slc.v ⟨none, 0, 0⟩)]⟩ 24) fun r8 w9 =>
  aJ w9 ⟨r8, 0, none⟩ 2 /\ ∀ w10, w10 = setCells w9 ⟨r8, 0, none⟩ 0 [(.int .i64 n7), (Slc.v ⟨none, 0, 0⟩)] ->
  ∃ s11, w10.cell? ⟨r3, 1, none⟩ = some (Slc.v s11) /\
  ∃ (I12 : (Int) -> World -> Prop) (mu13 : (Int) -> World -> Nat), I12 ((0 : Int)) w10 /\ (
  ∀ i14 : Int, ∀ w15 : World, I12 i14 w15 -> ∀ _ _ _ _ _ _ _ _ _ _ _ _ : Value,
  BIf (decide (i14 < (s11.l : Int))) (
  needSome s11.p fun a28 =>
  0 <= i14 /\ i14 < (s11.l : Int) /\
  ∃ s29, w15.cell? (Addr.add a28 ((Int.toNat i14) * 1)) = some (Slc.v s29) /\
  ∃ s30, w15.drew.cell? ⟨r8, 1, none⟩ = some (Slc.v s30) /\
  Calls Tryz.prog dm ⟨[(Slc.v s29)]⟩ w15.drew fun e31 w32 =>
  ∃ s33, e31 = .returned (Slc.v s33) /\
  (∃ s34, w32.cell? ⟨r8, 1, none⟩ = some (Slc.v s34) /\
  (Slc.v s34) = (Slc.v s30)) /\
  aP w32 (.cells ⟨[(Slc.v s33)]⟩ 37) fun r35 w36 =>
  (∃ s37, w36.cell? ⟨r8, 1, none⟩ = some (Slc.v s37) /\
  (Slc.v s37) = (Slc.v s30)) /\
  aM 1 37 [(Slc.v ⟨none, 0, 0⟩)] w36 s30 (.slc (⟨(some ⟨r35, 0, none⟩), 1, 1⟩ : Slc)) fun s38 w39 =>
  aJ w39 ⟨r8, 1, none⟩ 1 /\ ∀ w40, w40 = w39.setCell ⟨r8, 1, none⟩ (Slc.v s38) ->
  inR .i64 (i14 + (1 : Int)) /\
  (I12 ((i14 + (1 : Int))) w40 /\ mu13 ((i14 + (1 : Int))) w40 < mu13 i14 w15)) (
  ∃ n41 : Int, ∃ s42 : Slc, rowAt w15 ⟨r8, 0, none⟩ 0 [(.int .i64 n41), (Slc.v s42)] /\
  aJ w15 ⟨r5, 0, none⟩ 2 /\ ∀ w43, w43 = setCells w15 ⟨r5, 0, none⟩ 0 [(.int .i64 n41), (Slc.v s42)] ->
  ∃ n44 : Int, ∃ s45 : Slc, rowAt w43 ⟨r5, 0, none⟩ 0 [(.int .i64 n44), (Slc.v s45)] /\
  K (.agg ⟨[(.int .i64 n44), (Slc.v s45)]⟩) w43))
theorem vu (p1 : Int) (p2 : Slc) {w : World} {R : Ending -> World -> Prop} (h : uK p1 p2 w fun v w' => R (.returned v) w') : Calls Tryz.prog ky ⟨[(.agg ⟨[(.int .i64 p1), (Slc.v p2)]⟩)]⟩ w R :=
  ab (ann := (.two .none (.two .none (.two (.two .none (.one (.loop [(12, (Sh.int .i64))] ([5] ++ List.range' 13 11) .none))) .none)))) ag mixed Tryz.func24 (Eq.mp (by kernel_rfl) h)
def sC (p1 : Int) (p2 : Slc) (w : World) (K : Value -> World -> Prop) : Prop :=
  aP w (.cells ⟨[(.int .i64 p1), (Slc.v p2)]⟩ 24) fun r3 w4 =>
  ∃ n5 : Int, ∃ s6 : Slc, rowAt w4 ⟨r3, 0, none⟩ 0 [(.int .i64 n5), (Slc.v s6)] /\
  Calls Tryz.prog ef ⟨[(.agg ⟨[(.int .i64 n5), (Slc.v s6)]⟩)]⟩ w4 fun e7 w8 =>
  ∃ b9, e7 = .returned (.bool b9) /\
  BIf (!b9) (
  K (Slc.v ⟨none, 0, 0⟩) w8) (
  ∃ n10 : Int, ∃ s11 : Slc, rowAt w8 ⟨r3, 0, none⟩ 0 [(.int .i64 n10), (Slc.v s11)] /\
  Calls Tryz.prog jc ⟨[(.agg ⟨[(.int .i64 n10), (Slc.v s11)]⟩)]⟩ w8 fun e12 w13 =>
  ∃ s14, e12 = .returned (Slc.v s14) /\
  K (Slc.v s14) w13)
theorem tY (p1 : Int) (p2 : Slc) {w : World} {R : Ending -> World -> Prop} (h : sC p1 p2 w fun v w' => R (.returned v) w') : Calls Tryz.prog jI ⟨[(.agg ⟨[(.int .i64 p1), (Slc.v p2)]⟩)]⟩ w R :=
  ab (ann := .none) ag mixed Tryz.func9 (Eq.mp (by kernel_rfl) h)
def sD (p1 : Int) (p2 : Slc) (a3 : Int) (w : World) (K : Value -> World -> Prop) : Prop :=
  aP w (.cells ⟨[(.int .i64 p1), (Slc.v p2)]⟩ 24) fun r4 w5 =>
  ∃ n6 : Int, ∃ s7 : Slc, rowAt w5 ⟨r4, 0, none⟩ 0 [(.int .i64 n6), (Slc.v s7)] /\
  Calls Tryz.prog ef ⟨[(.agg ⟨[(.int .i64 n6), (Slc.v s7)]⟩)]⟩ w5 fun e8 w9 =>
  ∃ b10, e8 = .returned (.bool b10) /\
  BIf (!b10) (
  ∃ v11, w9.drew.cell? ⟨aD, 0, none⟩ = some v11 /\
  K (.tuple ⟨[(.int .i64 (0 : Int)), (.int .i64 (0 : Int)), v11]⟩) w9.drew) (
  BIf (decide (a3 < (0 : Int))) (
  ∃ v12, w9.drew.cell? ⟨av, 0, none⟩ = some v12 /\
  K (.tuple ⟨[(.int .i64 (0 : Int)), (.int .i64 (0 : Int)), v12]⟩) w9.drew) (
  BIf (decide ((4096 : Int) <= a3)) (
  ∃ v13, w9.drew.cell? ⟨av, 0, none⟩ = some v13 /\
  K (.tuple ⟨[(.int .i64 (0 : Int)), (.int .i64 (0 : Int)), v13]⟩) w9.drew) (
  ∃ s14, w9.cell? ⟨r4, 1, none⟩ = some (Slc.v s14) /\
  0 <= a3 /\ 0 < (s14.l : Int) /\
  0 <= a3 /\ 0 < (s14.l : Int) /\ inR .i64 a3 /\
  K (.tuple ⟨[(.int .i64 (a3 % (s14.l : Int))), (.int .i64 (a3 / (s14.l : Int))), .nilIface]⟩) w9.drew)))
theorem tZ (p1 : Int) (p2 : Slc) (a3 : Int) {w : World} {R : Ending -> World -> Prop} (h : sD p1 p2 a3 w fun v w' => R (.returned v) w') : Calls Tryz.prog jL ⟨[(.agg ⟨[(.int .i64 p1), (Slc.v p2)]⟩), (.int .i64 a3)]⟩ w R :=
  ab (ann := .none) ag mixed Tryz.func53 (Eq.mp (by kernel_rfl) h)
end Go.D

