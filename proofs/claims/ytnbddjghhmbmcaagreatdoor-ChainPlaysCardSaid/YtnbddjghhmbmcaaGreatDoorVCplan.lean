/-
  WHAT IS PROVED: verification conditions of functions of this program, each with its soundness. No further conditions.
-/
import Derived.Test.YtnbddjghhmbmcaaGreatDoorBase
set_option linter.unusedSimpArgs false
set_option maxRecDepth 100000
set_option linter.unusedVariables false
namespace Go.D
open Go Go.Proofs
def pJ (s1 : Slc) (n2 : Int) (w : World) (K : Value -> World -> Prop) : Prop :=
  ∃ J3 : World -> Prop,
  (
  BIf (decide (n2 < 0)) (
  False) (
  J3 w)) /\ (
  ∀ w4 : World, J3 w4 -> ∀ _ _ _ : Value,
  inR .i64 ((s1.c : Int) - (s1.l : Int)) /\
  inR .i64 (n2 - ((s1.c : Int) - (s1.l : Int))) /\
  BIf (decide ((0 : Int) < (n2 - ((s1.c : Int) - (s1.l : Int))))) (
  0 <= (0 : Int) /\ (0 : Int) <= (s1.c : Int) /\ (s1.c : Int) <= (s1.c : Int) /\ (s1.c : Int) <= (s1.c : Int) /\
  Bl 1 3 [(.int .i64 0)] w4 (Slc.sub s1 1 0 s1.c s1.c) (n2 - ((s1.c : Int) - (s1.l : Int))) fun s9 w10 =>
  0 <= (0 : Int) /\ (0 : Int) <= (s1.l : Int) /\ (s1.l : Int) <= (s9.c : Int) /\ (s9.c : Int) <= (s9.c : Int) /\
  K (Slc.v (Slc.sub s9 1 0 s1.l s9.c)) w10) (
  K s1.v w4))
theorem sf (s1 : Slc) (n2 : Int) {w : World} {R : Ending -> World -> Prop} (h : pJ s1 n2 w fun v w' => R (.returned v) w') : Calls Tryz.prog iA ⟨[s1.v, (.int .i64 n2)]⟩ w R :=
  ab (ann := (.two .none (.cut [] [5, 6, 7] .none .none))) ag mixed Tryz.func82 (Eq.mp (by kernel_rfl) h)
def mI (slices1 : Slc) (w : World) (K : Value -> World -> Prop) : Prop :=
  ∃ (I2 : (Int) -> (Int) -> World -> Prop) (mu3 : (Int) -> (Int) -> World -> Nat), I2 ((0 : Int)) ((0 : Int)) w /\ (
  ∀ size4 : Int, ∀ i5 : Int, ∀ w6 : World, I2 size4 i5 w6 -> ∀ _ _ _ _ _ _ _ _ _ _ _ _ : Value,
  BIf (decide (i5 < (slices1.l : Int))) (
  needSome slices1.p fun a19 =>
  0 <= i5 /\ i5 < (slices1.l : Int) /\
  ∃ s20, w6.cell? (Addr.add a19 ((Int.toNat i5) * 1)) = some (Slc.v s20) /\
  inR .i64 (size4 + (s20.l : Int)) /\
  BIf (decide ((size4 + (s20.l : Int)) < (0 : Int))) (
  False) (
  inR .i64 (i5 + 1) /\
  (I2 ((size4 + (s20.l : Int))) ((i5 + 1)) w6 /\ mu3 ((size4 + (s20.l : Int))) ((i5 + 1)) w6 < mu3 size4 i5 w6))) (
  Calls Tryz.prog iA ⟨[(Slc.v ⟨none, 0, 0⟩), (.int .i64 size4)]⟩ w6 fun e21 w22 =>
  ∃ s23, e21 = .returned (Slc.v s23) /\
  ∃ (I24 : (Slc) -> (Int) -> World -> Prop) (mu25 : (Slc) -> (Int) -> World -> Nat), I24 (s23) ((0 : Int)) w22 /\ (
  ∀ newslice26 : Slc, ∀ i27 : Int, ∀ w28 : World, I24 newslice26 i27 w28 -> ∀ _ _ _ _ _ _ _ _ : Value,
  BIf (decide (i27 < (slices1.l : Int))) (
  needSome slices1.p fun a37 =>
  0 <= i27 /\ i27 < (slices1.l : Int) /\
  ∃ s38, w28.cell? (Addr.add a37 ((Int.toNat i27) * 1)) = some (Slc.v s38) /\
  ak 1 3 [(.int .i64 0)] w28 newslice26 (.slc s38) fun s39 w40 =>
  inR .i64 (i27 + 1) /\
  (I24 (s39) ((i27 + 1)) w40 /\ mu25 (s39) ((i27 + 1)) w40 < mu25 newslice26 i27 w28)) (
  K newslice26.v w28))))
theorem qD (slices1 : Slc) {w : World} {R : Ending -> World -> Prop} (h : mI slices1 w fun v w' => R (.returned v) w') : Calls Tryz.prog gn ⟨[slices1.v]⟩ w R :=
  ab (ann := (.two .none (.two .none (.two (.two .none (.one (.loop [(3, (Sh.int .i64)), (11, (Sh.int .i64))] ([5] ++ List.range' 12 11) .none))) (.two .none (.two (.two .none (.one (.loop [(6, Sh.slc), (27, (Sh.int .i64))] [8, 28, 29, 30, 31, 32, 33, 34] .none))) .none)))))) ag mixed Tryz.func51 (Eq.mp (by kernel_rfl) h)
def BP (p1 : Int) (p2 : Slc) (w : World) (K : Value -> World -> Prop) : Prop :=
  aA w (.cells ⟨[(.int .i64 p1), p2.v]⟩ 24) fun r3 w4 =>
  ∃ s5, w4.cell? ⟨r3, 1, none⟩ = some (Slc.v s5) /\
  Calls Tryz.prog gn ⟨[s5.v]⟩ w4 fun e6 w7 =>
  ∃ s8, e6 = .returned (Slc.v s8) /\
  Calls Tryz.prog iy ⟨[s8.v]⟩ w7 fun e9 w10 =>
  e9 = .returned (.tuple #[]) /\
  K s8.v w10
theorem BQ (p1 : Int) (p2 : Slc) {w : World} {R : Ending -> World -> Prop} (h : BP p1 p2 w fun v w' => R (.returned v) w') : Calls Tryz.prog qj ⟨[(.agg ⟨[(.int .i64 p1), p2.v]⟩)]⟩ w R :=
  ab (ann := .none) ag mixed Tryz.func21 (Eq.mp (by kernel_rfl) h)
def nP (s1 : Slc) (w : World) (K : Value -> World -> Prop) : Prop :=
  BIf (Option.isNone (s1.p : Option Addr)) (
  K (Slc.v ⟨none, 0, 0⟩) w) (
  aA w (.cells ⟨[]⟩ 3) fun r2 w3 =>
  ak 1 3 [(.int .i64 0)] w3 (⟨(some ⟨r2, 0, none⟩), 0, 0⟩ : Slc) (.slc s1) fun s4 w5 =>
  K (Slc.v s4) w5)
theorem rp (s1 : Slc) {w : World} {R : Ending -> World -> Prop} (h : nP s1 w fun v w' => R (.returned v) w') : Calls Tryz.prog eX ⟨[s1.v]⟩ w R :=
  ab (ann := .none) ag mixed Tryz.func23 (Eq.mp (by kernel_rfl) h)
def lQ (s1 : Slc) (w : World) (K : Value -> World -> Prop) : Prop :=
  BIf (decide ((s1.l : Int) < (2 : Int))) (
  K s1.v w) (
  ∃ (I2 : (Int) -> World -> Prop) (mu3 : (Int) -> World -> Nat), I2 ((1 : Int)) w /\ (
  ∀ k4 : Int, ∀ w5 : World, I2 k4 w5 -> ∀ _ _ _ _ _ _ _ _ _ _ _ _ _ _ _ _ _ _ _ _ _ _ _ _ _ _ _ _ _ _ _ _ _ _ _ _ _ _ _ _ _ _ _ _ _ _ _ _ _ _ _ _ _ : Value,
  BIf (decide (k4 < (s1.l : Int))) (
  needSome s1.p fun a59 =>
  0 <= k4 /\ k4 < (s1.l : Int) /\
  ∃ n60, w5.drew.cell? (Addr.add a59 ((Int.toNat k4) * 1)) = some (.int .i64 n60) /\
  inR .i64 (k4 - 1) /\
  needSome s1.p fun a61 =>
  0 <= (k4 - 1) /\ (k4 - 1) < (s1.l : Int) /\
  ∃ n62, w5.drew.cell? (Addr.add a61 ((Int.toNat (k4 - 1)) * 1)) = some (.int .i64 n62) /\
  BIf (decide (n60 = n62)) (
  0 <= k4 /\ k4 <= (s1.l : Int) /\ (s1.l : Int) <= (s1.c : Int) /\ (s1.c : Int) <= (s1.c : Int) /\
  ∃ (I64 : (Int) -> (Int) -> World -> Prop) (mu65 : (Int) -> (Int) -> World -> Nat), I64 (k4) ((1 : Int)) w5.drew /\ (
  ∀ k66 : Int, ∀ i67 : Int, ∀ w68 : World, I64 k66 i67 w68 -> ∀ _ _ _ _ _ _ _ _ _ _ _ _ _ _ _ _ _ _ _ _ _ _ _ _ _ : Value,
  BIf (decide (i67 < (((Slc.sub s1 1 (Int.toNat k4) s1.l s1.c).l : Nat) : Int))) (
  needSome (Slc.sub s1 1 (Int.toNat k4) s1.l s1.c).p fun a94 =>
  0 <= i67 /\ i67 < (((Slc.sub s1 1 (Int.toNat k4) s1.l s1.c).l : Nat) : Int) /\
  ∃ n95, w68.drew.cell? (Addr.add a94 ((Int.toNat i67) * 1)) = some (.int .i64 n95) /\
  inR .i64 (i67 - 1) /\
  needSome (Slc.sub s1 1 (Int.toNat k4) s1.l s1.c).p fun a96 =>
  0 <= (i67 - 1) /\ (i67 - 1) < (((Slc.sub s1 1 (Int.toNat k4) s1.l s1.c).l : Nat) : Int) /\
  ∃ n97, w68.drew.cell? (Addr.add a96 ((Int.toNat (i67 - 1)) * 1)) = some (.int .i64 n97) /\
  BIf (!decide (n95 = n97)) (
  needSome (Slc.sub s1 1 (Int.toNat k4) s1.l s1.c).p fun a98 =>
  0 <= i67 /\ i67 < (((Slc.sub s1 1 (Int.toNat k4) s1.l s1.c).l : Nat) : Int) /\
  ∃ n99, w68.drew.cell? (Addr.add a98 ((Int.toNat i67) * 1)) = some (.int .i64 n99) /\
  needSome s1.p fun a100 =>
  0 <= k66 /\ k66 < (s1.l : Int) /\
  aw w68.drew (Addr.add a100 ((Int.toNat k66) * 1)) 1 /\ ∀ w101, w101 = w68.drew.setCell (Addr.add a100 ((Int.toNat k66) * 1)) (.int .i64 n99) ->
  inR .i64 (k66 + 1) /\
  inR .i64 (i67 + 1) /\
  (I64 ((k66 + 1)) ((i67 + 1)) w101 /\ mu65 ((k66 + 1)) ((i67 + 1)) w101 < mu65 k66 i67 w68)) (
  inR .i64 (i67 + 1) /\
  (I64 (k66) ((i67 + 1)) w68.drew /\ mu65 (k66) ((i67 + 1)) w68.drew < mu65 k66 i67 w68))) (
  0 <= k66 /\ k66 <= (s1.l : Int) /\ (s1.l : Int) <= (s1.c : Int) /\ (s1.c : Int) <= (s1.c : Int) /\
  ly [(.int .i64 0)] w68 (Slc.sub s1 1 (Int.toNat k66) s1.l s1.c) fun w103 =>
  0 <= (0 : Int) /\ (0 : Int) <= k66 /\ k66 <= (s1.c : Int) /\ (s1.c : Int) <= (s1.c : Int) /\
  K (Slc.v (Slc.sub s1 1 0 (Int.toNat k66) s1.c)) w103))) (
  inR .i64 (k4 + 1) /\
  (I2 ((k4 + 1)) w5.drew /\ mu3 ((k4 + 1)) w5.drew < mu3 k4 w5))) (
  K s1.v w5)))
theorem pW (s1 : Slc) {w : World} {R : Ending -> World -> Prop} (h : lQ s1 w fun v w' => R (.returned v) w') : Calls Tryz.prog fW ⟨[s1.v]⟩ w R :=
  ab (ann := (.two .none (.two .none (.two (.two .none (.one (.loop [(3, (Sh.int .i64))] ([2, 4, 5] ++ List.range' 10 50) (.two .none (.two (.one (.two .none (.two (.two .none (.two (.two .none (.one (.loop [(3, (Sh.int .i64)), (5, (Sh.int .i64))] (List.range' 29 25) .none))) .none)) .none))) .none))))) .none)))) ag mixed Tryz.func22 (Eq.mp (by kernel_rfl) h)
def mJ (u1 : Int) (w : World) (K : Value -> World -> Prop) : Prop :=
  BIf (decide (u1 < 0)) (
  K (.bool true) w) (
  K (.bool (decide (12 <= u1))) w)
theorem qE (u1 : Int) {w : World} {R : Ending -> World -> Prop} (h : mJ u1 w fun v w' => R (.returned v) w') : Calls Tryz.prog db ⟨[(.int .i64 u1)]⟩ w R :=
  ab (ann := .none) ag mixed Tryz.func50 (Eq.mp (by kernel_rfl) h)
def cH (s1 : Slc) (w : World) (K : Value -> World -> Prop) : Prop :=
  Calls Tryz.prog bY ⟨[s1.v, (.func (.func 50) ⟨[]⟩ ⟨[]⟩)]⟩ w fun e2 w3 =>
  ∃ n4, e2 = .returned (.int .i64 n4) /\
  K (.bool (decide (0 <= n4))) w3
theorem fi (s1 : Slc) {w : World} {R : Ending -> World -> Prop} (h : cH s1 w fun v w' => R (.returned v) w') : Calls Tryz.prog bj ⟨[s1.v, (.func (.func 50) ⟨[]⟩ ⟨[]⟩)]⟩ w R :=
  ab (ann := .none) ag mixed Tryz.func49 (Eq.mp (by kernel_rfl) h)
def dc (s1 : Slc) (w : World) (K : Value -> World -> Prop) : Prop :=
  ∃ (I2 : (Int) -> World -> Prop) (mu3 : (Int) -> World -> Nat), I2 ((0 : Int)) w /\ (
  ∀ i4 : Int, ∀ w5 : World, I2 i4 w5 -> ∀ _ _ _ _ _ _ _ _ _ _ _ _ : Value,
  BIf (decide (i4 < (s1.l : Int))) (
  needSome s1.p fun a18 =>
  0 <= i4 /\ i4 < (s1.l : Int) /\
  ∃ n19, w5.cell? (Addr.add a18 ((Int.toNat i4) * 1)) = some (.int .i64 n19) /\
  Calls Tryz.prog db ⟨[(.int .i64 n19)]⟩ w5 fun e20 w21 =>
  ∃ b22, e20 = .returned (.bool b22) /\
  BIf b22 (
  K (.int .i64 i4) w21) (
  inR .i64 (i4 + 1) /\
  (I2 ((i4 + 1)) w21 /\ mu3 ((i4 + 1)) w21 < mu3 i4 w5))) (
  K (.int .i64 (-1 : Int)) w5))
theorem fU (s1 : Slc) {w : World} {R : Ending -> World -> Prop} (h : dc s1 w fun v w' => R (.returned v) w') : Calls Tryz.prog bY ⟨[s1.v, (.func (.func 50) ⟨[]⟩ ⟨[]⟩)]⟩ w R :=
  ab (ann := (.two .none (.two (.two .none (.one (.loop [(8, (Sh.int .i64))] ([4, 5] ++ List.range' 9 10) .none))) .none))) ag mixed Tryz.func81 (Eq.mp (by kernel_rfl) h)
def pK (c1 : Slc) (w : World) (K : Value -> World -> Prop) : Prop :=
  BIf (decide ((1 : Int) <= (c1.l : Int))) (
  BIf (decide ((c1.l : Int) <= (3 : Int))) (
  Calls Tryz.prog bj ⟨[c1.v, (.func (.func 50) ⟨[]⟩ ⟨[]⟩)]⟩ w fun e2 w3 =>
  ∃ b4, e2 = .returned (.bool b4) /\
  K (.bool (!b4)) w3) (
  K (.bool false) w)) (
  K (.bool false) w)
theorem sg (c1 : Slc) {w : World} {R : Ending -> World -> Prop} (h : pK c1 w fun v w' => R (.returned v) w') : Calls Tryz.prog ix ⟨[c1.v]⟩ w R :=
  ab (ann := .none) ag mixed Tryz.func20 (Eq.mp (by kernel_rfl) h)
def tM (c1 : Slc) (w : World) (K : Value -> World -> Prop) : Prop :=
  Calls Tryz.prog ix ⟨[c1.v]⟩ w fun e2 w3 =>
  ∃ b4, e2 = .returned (.bool b4) /\
  K (.bool (!b4)) w3
theorem vV (c1 : Slc) {w : World} {R : Ending -> World -> Prop} (h : tM c1 w fun v w' => R (.returned v) w') : Calls Tryz.prog fS ⟨[c1.v]⟩ w R :=
  ab (ann := .none) ag mixed Tryz.func19 (Eq.mp (by kernel_rfl) h)
def dj (s1 : Slc) (w : World) (K : Value -> World -> Prop) : Prop :=
  Calls Tryz.prog eG ⟨[s1.v, (.func (.func 19) ⟨[]⟩ ⟨[]⟩)]⟩ w fun e2 w3 =>
  ∃ n4, e2 = .returned (.int .i64 n4) /\
  K (.bool (decide (0 <= n4))) w3
theorem fZ (s1 : Slc) {w : World} {R : Ending -> World -> Prop} (h : dj s1 w fun v w' => R (.returned v) w') : Calls Tryz.prog dE ⟨[s1.v, (.func (.func 19) ⟨[]⟩ ⟨[]⟩)]⟩ w R :=
  ab (ann := .none) ag mixed Tryz.func18 (Eq.mp (by kernel_rfl) h)
def dY (s1 : Slc) (w : World) (K : Value -> World -> Prop) : Prop :=
  ∃ (I2 : (Int) -> World -> Prop) (mu3 : (Int) -> World -> Nat), I2 ((0 : Int)) w /\ (
  ∀ i4 : Int, ∀ w5 : World, I2 i4 w5 -> ∀ _ _ _ _ _ _ _ _ _ _ _ _ : Value,
  BIf (decide (i4 < (s1.l : Int))) (
  needSome s1.p fun a18 =>
  0 <= i4 /\ i4 < (s1.l : Int) /\
  ∃ s19, w5.cell? (Addr.add a18 ((Int.toNat i4) * 1)) = some (Slc.v s19) /\
  Calls Tryz.prog fS ⟨[s19.v]⟩ w5 fun e20 w21 =>
  ∃ b22, e20 = .returned (.bool b22) /\
  BIf b22 (
  K (.int .i64 i4) w21) (
  inR .i64 (i4 + 1) /\
  (I2 ((i4 + 1)) w21 /\ mu3 ((i4 + 1)) w21 < mu3 i4 w5))) (
  K (.int .i64 (-1 : Int)) w5))
theorem gO (s1 : Slc) {w : World} {R : Ending -> World -> Prop} (h : dY s1 w fun v w' => R (.returned v) w') : Calls Tryz.prog eG ⟨[s1.v, (.func (.func 19) ⟨[]⟩ ⟨[]⟩)]⟩ w R :=
  ab (ann := (.two .none (.two (.two .none (.one (.loop [(8, (Sh.int .i64))] ([4, 5] ++ List.range' 9 10) .none))) .none))) ag mixed Tryz.func48 (Eq.mp (by kernel_rfl) h)
def xK (p1 : Int) (p2 : Slc) (w : World) (K : Value -> World -> Prop) : Prop :=
  aA w (.cells ⟨[(.int .i64 p1), p2.v]⟩ 24) fun r3 w4 =>
  ∃ J5 : World -> Prop,
  (
  ∃ n6, w4.cell? ⟨r3, 0, none⟩ = some (.int .i64 n6) /\
  BIf (decide (n6 < 0)) (
  K (.bool false) w4) (
  ∃ n7, w4.cell? ⟨r3, 0, none⟩ = some (.int .i64 n7) /\
  BIf (decide (1073741824 < n7)) (
  K (.bool false) w4) (
  ∃ s8, w4.cell? ⟨r3, 1, none⟩ = some (Slc.v s8) /\
  BIf (decide ((s8.l : Int) < (1 : Int))) (
  K (.bool false) w4) (
  ∃ s9, w4.cell? ⟨r3, 1, none⟩ = some (Slc.v s9) /\
  BIf (decide ((3 : Int) < (s9.l : Int))) (
  K (.bool false) w4) (
  J5 w4))))) /\ (
  ∀ w10 : World, J5 w10 -> ∀ _ _ _ _ _ _ _ _ _ _ _ _ _ _ _ _ _ _ _ _ _ : Value,
  ∃ s32, w10.cell? ⟨r3, 1, none⟩ = some (Slc.v s32) /\
  Calls Tryz.prog dE ⟨[s32.v, (.func (.func 19) ⟨[]⟩ ⟨[]⟩)]⟩ w10 fun e33 w34 =>
  ∃ b35, e33 = .returned (.bool b35) /\
  BIf b35 (
  K (.bool false) w34) (
  ∃ n36 : Int, ∃ s37 : Slc, rowAt w34 ⟨r3, 0, none⟩ 0 [(.int .i64 n36), s37.v] /\
  Calls Tryz.prog qj ⟨[(.agg ⟨[(.int .i64 n36), s37.v]⟩)]⟩ w34 fun e38 w39 =>
  ∃ s40, e38 = .returned (Slc.v s40) /\
  Calls Tryz.prog eX ⟨[s40.v]⟩ w39 fun e41 w42 =>
  ∃ s43, e41 = .returned (Slc.v s43) /\
  Calls Tryz.prog fW ⟨[s43.v]⟩ w42 fun e44 w45 =>
  ∃ s46, e44 = .returned (Slc.v s46) /\
  K (.bool (decide ((s46.l : Int) = (s40.l : Int)))) w45))
theorem zh (p1 : Int) (p2 : Slc) {w : World} {R : Ending -> World -> Prop} (h : xK p1 p2 w fun v w' => R (.returned v) w') : Calls Tryz.prog dJ ⟨[(.agg ⟨[(.int .i64 p1), p2.v]⟩)]⟩ w R :=
  ab (ann := (.two .none (.cut [] ([2] ++ List.range' 4 20) .none .none))) ag mixed Tryz.func7 (Eq.mp (by kernel_rfl) h)
def zV (p1 : Int) (p2 : Slc) (w : World) (K : Value -> World -> Prop) : Prop :=
  aA w (.cells ⟨[(.int .i64 p1), p2.v]⟩ 24) fun r3 w4 =>
  aA w4 (.cells ⟨[(.int .i64 0), (Slc.v ⟨none, 0, 0⟩)]⟩ 24) fun r5 w6 =>
  ∃ n7, w6.cell? ⟨r3, 0, none⟩ = some (.int .i64 n7) /\
  aA w6 (.cells ⟨[(.int .i64 0), (Slc.v ⟨none, 0, 0⟩)]⟩ 24) fun r8 w9 =>
  aw w9 ⟨r8, 0, none⟩ 2 /\ ∀ w10, w10 = setCells w9 ⟨r8, 0, none⟩ 0 [(.int .i64 n7), (Slc.v ⟨none, 0, 0⟩)] ->
  ∃ s11, w10.cell? ⟨r3, 1, none⟩ = some (Slc.v s11) /\
  ∃ (I12 : (Int) -> World -> Prop) (mu13 : (Int) -> World -> Nat), I12 ((0 : Int)) w10 /\ (
  ∀ i14 : Int, ∀ w15 : World, I12 i14 w15 -> ∀ _ _ _ _ _ _ _ _ _ _ _ _ : Value,
  BIf (decide (i14 < (s11.l : Int))) (
  needSome s11.p fun a28 =>
  0 <= i14 /\ i14 < (s11.l : Int) /\
  ∃ s29, w15.cell? (Addr.add a28 ((Int.toNat i14) * 1)) = some (Slc.v s29) /\
  ∃ s30, w15.drew.cell? ⟨r8, 1, none⟩ = some (Slc.v s30) /\
  Calls Tryz.prog eX ⟨[s29.v]⟩ w15.drew fun e31 w32 =>
  ∃ s33, e31 = .returned (Slc.v s33) /\
  (ckSx (w32.cell? ⟨r8, 1, none⟩) s30) /\
  aA w32 (.cells ⟨[s33.v]⟩ 37) fun r35 w36 =>
  (ckSx (w36.cell? ⟨r8, 1, none⟩) s30) /\
  ak 1 37 [(Slc.v ⟨none, 0, 0⟩)] w36 s30 (.slc (⟨(some ⟨r35, 0, none⟩), 1, 1⟩ : Slc)) fun s38 w39 =>
  aw w39 ⟨r8, 1, none⟩ 1 /\ ∀ w40, w40 = w39.setCell ⟨r8, 1, none⟩ (Slc.v s38) ->
  inR .i64 (i14 + 1) /\
  (I12 ((i14 + 1)) w40 /\ mu13 ((i14 + 1)) w40 < mu13 i14 w15)) (
  ∃ n41 : Int, ∃ s42 : Slc, rowAt w15 ⟨r8, 0, none⟩ 0 [(.int .i64 n41), s42.v] /\
  aw w15 ⟨r5, 0, none⟩ 2 /\ ∀ w43, w43 = setCells w15 ⟨r5, 0, none⟩ 0 [(.int .i64 n41), s42.v] ->
  ∃ n44 : Int, ∃ s45 : Slc, rowAt w43 ⟨r5, 0, none⟩ 0 [(.int .i64 n44), s45.v] /\
  K (.agg ⟨[(.int .i64 n44), s45.v]⟩) w43))
theorem AI (p1 : Int) (p2 : Slc) {w : World} {R : Ending -> World -> Prop} (h : zV p1 p2 w fun v w' => R (.returned v) w') : Calls Tryz.prog oK ⟨[(.agg ⟨[(.int .i64 p1), p2.v]⟩)]⟩ w R :=
  ab (ann := (.two .none (.two .none (.two (.two .none (.one (.loop [(12, (Sh.int .i64))] ([5] ++ List.range' 13 11) .none))) .none)))) ag mixed Tryz.func24 (Eq.mp (by kernel_rfl) h)
def xL (p1 : Int) (p2 : Slc) (a3 : Int) (w : World) (K : Value -> World -> Prop) : Prop :=
  aA w (.cells ⟨[(.int .i64 p1), p2.v]⟩ 24) fun r4 w5 =>
  ∃ n6 : Int, ∃ s7 : Slc, rowAt w5 ⟨r4, 0, none⟩ 0 [(.int .i64 n6), s7.v] /\
  Calls Tryz.prog dJ ⟨[(.agg ⟨[(.int .i64 n6), s7.v]⟩)]⟩ w5 fun e8 w9 =>
  ∃ b10, e8 = .returned (.bool b10) /\
  BIf (!b10) (
  ∃ v11, w9.drew.cell? ⟨aH, 0, none⟩ = some v11 /\
  K (.tuple ⟨[(.int .i64 0), (.int .i64 0), v11]⟩) w9.drew) (
  BIf (decide (a3 < 0)) (
  ∃ v12, w9.drew.cell? ⟨aD, 0, none⟩ = some v12 /\
  K (.tuple ⟨[(.int .i64 0), (.int .i64 0), v12]⟩) w9.drew) (
  BIf (decide (4096 <= a3)) (
  ∃ v13, w9.drew.cell? ⟨aD, 0, none⟩ = some v13 /\
  K (.tuple ⟨[(.int .i64 0), (.int .i64 0), v13]⟩) w9.drew) (
  ∃ s14, w9.cell? ⟨r4, 1, none⟩ = some (Slc.v s14) /\
  0 <= a3 /\ 0 < (s14.l : Int) /\
  0 <= a3 /\ 0 < (s14.l : Int) /\ inR .i64 a3 /\
  K (.tuple ⟨[(.int .i64 (a3 % (s14.l : Int))), (.int .i64 (a3 / (s14.l : Int))), .nilIface]⟩) w9.drew)))
theorem zi (p1 : Int) (p2 : Slc) (a3 : Int) {w : World} {R : Ending -> World -> Prop} (h : xL p1 p2 a3 w fun v w' => R (.returned v) w') : Calls Tryz.prog ni ⟨[(.agg ⟨[(.int .i64 p1), p2.v]⟩), (.int .i64 a3)]⟩ w R :=
  ab (ann := .none) ag mixed Tryz.func53 (Eq.mp (by kernel_rfl) h)
def tN (p1 : Int) (p2 : Slc) (chain3 : Int) (at4 : Int) (w : World) (K : Value -> World -> Prop) : Prop :=
  aA w (.cells ⟨[(.int .i64 p1), p2.v]⟩ 24) fun r5 w6 =>
  ∃ n7 : Int, ∃ s8 : Slc, rowAt w6 ⟨r5, 0, none⟩ 0 [(.int .i64 n7), s8.v] /\
  Calls Tryz.prog dJ ⟨[(.agg ⟨[(.int .i64 n7), s8.v]⟩)]⟩ w6 fun e9 w10 =>
  ∃ b11, e9 = .returned (.bool b11) /\
  BIf (!b11) (
  K (.int .i64 (-1 : Int)) w10) (
  BIf (decide (chain3 < 0)) (
  K (.int .i64 (-1 : Int)) w10) (
  ∃ s12, w10.cell? ⟨r5, 1, none⟩ = some (Slc.v s12) /\
  BIf (decide ((s12.l : Int) <= chain3)) (
  K (.int .i64 (-1 : Int)) w10) (
  BIf (decide (at4 < 0)) (
  K (.int .i64 (-1 : Int)) w10) (
  BIf (decide (4096 < at4)) (
  K (.int .i64 (-1 : Int)) w10) (
  ∃ s13, w10.cell? ⟨r5, 1, none⟩ = some (Slc.v s13) /\
  inR .i64 (at4 * (s13.l : Int)) /\
  inR .i64 ((at4 * (s13.l : Int)) + chain3) /\
  K (.int .i64 ((at4 * (s13.l : Int)) + chain3)) w10)))))
theorem vW (p1 : Int) (p2 : Slc) (chain3 : Int) (at4 : Int) {w : World} {R : Ending -> World -> Prop} (h : tN p1 p2 chain3 at4 w fun v w' => R (.returned v) w') : Calls Tryz.prog kj ⟨[(.agg ⟨[(.int .i64 p1), p2.v]⟩), (.int .i64 chain3), (.int .i64 at4)]⟩ w R :=
  ab (ann := .none) ag mixed Tryz.func98 (Eq.mp (by kernel_rfl) h)
def zW (p1 : Int) (p2 : Slc) (tails3 : Slc) (w : World) (K : Value -> World -> Prop) : Prop :=
  aA w (.cells ⟨[(.int .i64 p1), p2.v]⟩ 24) fun r4 w5 =>
  ∃ n6 : Int, ∃ s7 : Slc, rowAt w5 ⟨r4, 0, none⟩ 0 [(.int .i64 n6), s7.v] /\
  Calls Tryz.prog dJ ⟨[(.agg ⟨[(.int .i64 n6), s7.v]⟩)]⟩ w5 fun e8 w9 =>
  ∃ b10, e8 = .returned (.bool b10) /\
  BIf (!b10) (
  K (.int .i64 0) w9) (
  ∃ s11, w9.cell? ⟨r4, 1, none⟩ = some (Slc.v s11) /\
  0 <= (0 : Int) /\ (0 : Int) <= (if (s11.l : Int) < (tails3.l : Int) then (s11.l : Int) else (tails3.l : Int)) /\ (if (s11.l : Int) < (tails3.l : Int) then (s11.l : Int) else (tails3.l : Int)) <= (tails3.c : Int) /\ (tails3.c : Int) <= (tails3.c : Int) /\
  ∃ (I13 : (Int) -> (Int) -> World -> Prop) (mu14 : (Int) -> (Int) -> World -> Nat), I13 ((0 : Int)) ((0 : Int)) w9 /\ (
  ∀ out15 : Int, ∀ i16 : Int, ∀ w17 : World, I13 out15 i16 w17 -> ∀ _ _ _ _ _ _ _ _ _ _ _ _ _ _ _ _ _ _ : Value,
  BIf (decide (i16 < (((Slc.sub tails3 1 0 (Int.toNat (if (s11.l : Int) < (tails3.l : Int) then (s11.l : Int) else (tails3.l : Int))) tails3.c).l : Nat) : Int))) (
  needSome (Slc.sub tails3 1 0 (Int.toNat (if (s11.l : Int) < (tails3.l : Int) then (s11.l : Int) else (tails3.l : Int))) tails3.c).p fun a36 =>
  0 <= i16 /\ i16 < (((Slc.sub tails3 1 0 (Int.toNat (if (s11.l : Int) < (tails3.l : Int) then (s11.l : Int) else (tails3.l : Int))) tails3.c).l : Nat) : Int) /\
  ∃ n37, w17.cell? (Addr.add a36 ((Int.toNat i16) * 1)) = some (.int .i64 n37) /\
  BIf (decide (0 < n37)) (
  ∃ n38 : Int, ∃ s39 : Slc, rowAt w17 ⟨r4, 0, none⟩ 0 [(.int .i64 n38), s39.v] /\
  inR .i64 ((if (4096 : Int) < n37 then (4096 : Int) else n37) - (1 : Int)) /\
  Calls Tryz.prog kj ⟨[(.agg ⟨[(.int .i64 n38), s39.v]⟩), (.int .i64 i16), (.int .i64 ((if (4096 : Int) < n37 then (4096 : Int) else n37) - (1 : Int)))]⟩ w17 fun e40 w41 =>
  ∃ n42, e40 = .returned (.int .i64 n42) /\
  inR .i64 (n42 + 1) /\
  inR .i64 (i16 + 1) /\
  (I13 ((if (n42 + 1) > out15 then (n42 + 1) else out15)) ((i16 + 1)) w41 /\ mu14 ((if (n42 + 1) > out15 then (n42 + 1) else out15)) ((i16 + 1)) w41 < mu14 out15 i16 w17)) (
  inR .i64 (i16 + 1) /\
  (I13 (out15) ((i16 + 1)) w17 /\ mu14 (out15) ((i16 + 1)) w17 < mu14 out15 i16 w17))) (
  K (.int .i64 out15) w17)))
theorem AJ (p1 : Int) (p2 : Slc) (tails3 : Slc) {w : World} {R : Ending -> World -> Prop} (h : zW p1 p2 tails3 w fun v w' => R (.returned v) w') : Calls Tryz.prog oM ⟨[(.agg ⟨[(.int .i64 p1), p2.v]⟩), tails3.v]⟩ w R :=
  ab (ann := (.two .none (.two .none (.two .none (.two (.two .none (.one (.loop [(5, (Sh.int .i64)), (20, (Sh.int .i64))] ([6, 7] ++ List.range' 21 16) .none))) .none))))) ag mixed Tryz.func71 (Eq.mp (by kernel_rfl) h)
end Go.D

