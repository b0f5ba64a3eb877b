/-
  WHAT IS PROVED: verification conditions of functions of this program, each with its soundness. No further conditions.
-/
import Derived.Test.YtfnibbccnbmkoaaDoorBase
set_option linter.unusedSimpArgs false
set_option maxRecDepth 100000
set_option linter.unusedVariables false
namespace Go.D
open Go Go.Proofs
def bq (data1 : Slc) (a2 : Int) (b3 : Int) (swaps4 : Option Addr) (w : World) (K : Value -> World -> Prop) : Prop :=
  needSome data1.p fun a5 =>
  0 <= b3 /\ b3 < (data1.l : Int) /\
  ∃ n6 : Int, ∃ n7 : Int, ∃ n8 : Int, ∃ n9 : Int, ∃ s10 : Slc, rowAt w.drew (Addr.add a5 ((Int.toNat b3) * 5)) 0 [(.int .i64 n6), (.int .i64 n7), (.int .i64 n8), (.int .i64 n9), s10.v] /\
  needSome data1.p fun a11 =>
  0 <= a2 /\ a2 < (data1.l : Int) /\
  ∃ n12 : Int, ∃ n13 : Int, ∃ n14 : Int, ∃ n15 : Int, ∃ s16 : Slc, rowAt w.drew (Addr.add a11 ((Int.toNat a2) * 5)) 0 [(.int .i64 n12), (.int .i64 n13), (.int .i64 n14), (.int .i64 n15), s16.v] /\
  Calls Tryd.prog ak ⟨[(.agg ⟨[(.int .i64 n6), (.int .i64 n7), (.int .i64 n8), (.int .i64 n9), s10.v]⟩), (.agg ⟨[(.int .i64 n12), (.int .i64 n13), (.int .i64 n14), (.int .i64 n15), s16.v]⟩)]⟩ w.drew fun e17 w18 =>
  ∃ n19, e17 = .returned (.int .i64 n19) /\
  BIf (decide (n19 < 0)) (
  needSome swaps4 fun a20 =>
  ∃ n21, w18.cell? a20 = some (.int .i64 n21) /\
  inR .i64 (n21 + 1) /\
  needSome swaps4 fun a22 =>
  aw w18 a22 1 /\ ∀ w23, w23 = w18.setCell a22 (.int .i64 (n21 + 1)) ->
  K (.tuple ⟨[(.int .i64 b3), (.int .i64 a2)]⟩) w23) (
  K (.tuple ⟨[(.int .i64 a2), (.int .i64 b3)]⟩) w18)
theorem cx (data1 : Slc) (a2 : Int) (b3 : Int) (swaps4 : Option Addr) {w : World} {R : Ending -> World -> Prop} (h : bq data1 a2 b3 swaps4 w fun v w' => R (.returned v) w') : Calls Tryd.prog aI ⟨[data1.v, (.int .i64 a2), (.int .i64 b3), (.pointer swaps4), (.func (.func 16) ⟨[]⟩ ⟨[]⟩)]⟩ w R :=
  ae (ann := .none) aj mixed Tryd.func52 (Eq.mp (by kernel_rfl) h)
def br (data1 : Slc) (a2 : Int) (b3 : Int) (c4 : Int) (swaps5 : Option Addr) (w : World) (K : Value -> World -> Prop) : Prop :=
  Calls Tryd.prog aI ⟨[data1.v, (.int .i64 a2), (.int .i64 b3), (.pointer swaps5), (.func (.func 16) ⟨[]⟩ ⟨[]⟩)]⟩ w fun e6 w7 =>
  ∃ n8 : Int, ∃ n9, e6 = .returned (.tuple ⟨[(.int .i64 n8), (.int .i64 n9)]⟩) /\
  Calls Tryd.prog aI ⟨[data1.v, (.int .i64 n9), (.int .i64 c4), (.pointer swaps5), (.func (.func 16) ⟨[]⟩ ⟨[]⟩)]⟩ w7 fun e10 w11 =>
  ∃ n12 : Int, ∃ n13, e10 = .returned (.tuple ⟨[(.int .i64 n12), (.int .i64 n13)]⟩) /\
  Calls Tryd.prog aI ⟨[data1.v, (.int .i64 n8), (.int .i64 n12), (.pointer swaps5), (.func (.func 16) ⟨[]⟩ ⟨[]⟩)]⟩ w11 fun e14 w15 =>
  ∃ n16 : Int, ∃ n17, e14 = .returned (.tuple ⟨[(.int .i64 n16), (.int .i64 n17)]⟩) /\
  K (.int .i64 n17) w15
theorem cy (data1 : Slc) (a2 : Int) (b3 : Int) (c4 : Int) (swaps5 : Option Addr) {w : World} {R : Ending -> World -> Prop} (h : br data1 a2 b3 c4 swaps5 w fun v w' => R (.returned v) w') : Calls Tryd.prog aH ⟨[data1.v, (.int .i64 a2), (.int .i64 b3), (.int .i64 c4), (.pointer swaps5), (.func (.func 16) ⟨[]⟩ ⟨[]⟩)]⟩ w R :=
  ae (ann := .none) aj mixed Tryd.func50 (Eq.mp (by kernel_rfl) h)
def aU (data1 : Slc) (a2 : Int) (swaps3 : Option Addr) (w : World) (K : Value -> World -> Prop) : Prop :=
  inR .i64 (a2 - 1) /\
  inR .i64 (a2 + 1) /\
  Calls Tryd.prog aH ⟨[data1.v, (.int .i64 (a2 - 1)), (.int .i64 a2), (.int .i64 (a2 + 1)), (.pointer swaps3), (.func (.func 16) ⟨[]⟩ ⟨[]⟩)]⟩ w fun e4 w5 =>
  ∃ n6, e4 = .returned (.int .i64 n6) /\
  K (.int .i64 n6) w5
theorem bJ (data1 : Slc) (a2 : Int) (swaps3 : Option Addr) {w : World} {R : Ending -> World -> Prop} (h : aU data1 a2 swaps3 w fun v w' => R (.returned v) w') : Calls Tryd.prog aA ⟨[data1.v, (.int .i64 a2), (.pointer swaps3), (.func (.func 16) ⟨[]⟩ ⟨[]⟩)]⟩ w R :=
  ae (ann := .none) aj mixed Tryd.func49 (Eq.mp (by kernel_rfl) h)
def bf (data1 : Slc) (a2 : Int) (b3 : Int) (w : World) (K : Value -> World -> Prop) : Prop :=
  inR .i64 (b3 - a2) /\
  aK w (.cells ⟨[(.int .i64 0)]⟩ 3) fun r4 w5 =>
  0 <= (b3 - a2) /\ 0 < (4 : Int) /\ inR .i64 (b3 - a2) /\
  inR .i64 (((b3 - a2) / (4 : Int)) * (1 : Int)) /\
  inR .i64 (a2 + (((b3 - a2) / (4 : Int)) * (1 : Int))) /\
  0 <= (b3 - a2) /\ 0 < (4 : Int) /\ inR .i64 (b3 - a2) /\
  inR .i64 (((b3 - a2) / (4 : Int)) * (2 : Int)) /\
  inR .i64 (a2 + (((b3 - a2) / (4 : Int)) * (2 : Int))) /\
  0 <= (b3 - a2) /\ 0 < (4 : Int) /\ inR .i64 (b3 - a2) /\
  inR .i64 (((b3 - a2) / (4 : Int)) * (3 : Int)) /\
  inR .i64 (a2 + (((b3 - a2) / (4 : Int)) * (3 : Int))) /\
  ∃ J6 : (Int) -> World -> Prop,
  (
  BIf (decide ((8 : Int) <= (b3 - a2))) (
  BIf (decide ((50 : Int) <= (b3 - a2))) (
  Calls Tryd.prog aA ⟨[data1.v, (.int .i64 (a2 + (((b3 - a2) / (4 : Int)) * (1 : Int)))), (.pointer (some ⟨r4, 0, none⟩)), (.func (.func 16) ⟨[]⟩ ⟨[]⟩)]⟩ w5 fun e7 w8 =>
  ∃ n9, e7 = .returned (.int .i64 n9) /\
  Calls Tryd.prog aA ⟨[data1.v, (.int .i64 (a2 + (((b3 - a2) / (4 : Int)) * (2 : Int)))), (.pointer (some ⟨r4, 0, none⟩)), (.func (.func 16) ⟨[]⟩ ⟨[]⟩)]⟩ w8 fun e10 w11 =>
  ∃ n12, e10 = .returned (.int .i64 n12) /\
  Calls Tryd.prog aA ⟨[data1.v, (.int .i64 (a2 + (((b3 - a2) / (4 : Int)) * (3 : Int)))), (.pointer (some ⟨r4, 0, none⟩)), (.func (.func 16) ⟨[]⟩ ⟨[]⟩)]⟩ w11 fun e13 w14 =>
  ∃ n15, e13 = .returned (.int .i64 n15) /\
  Calls Tryd.prog aH ⟨[data1.v, (.int .i64 n9), (.int .i64 n12), (.int .i64 n15), (.pointer (some ⟨r4, 0, none⟩)), (.func (.func 16) ⟨[]⟩ ⟨[]⟩)]⟩ w14 fun e16 w17 =>
  ∃ n18, e16 = .returned (.int .i64 n18) /\
  J6 (n18) w17) (
  Calls Tryd.prog aH ⟨[data1.v, (.int .i64 (a2 + (((b3 - a2) / (4 : Int)) * (1 : Int)))), (.int .i64 (a2 + (((b3 - a2) / (4 : Int)) * (2 : Int)))), (.int .i64 (a2 + (((b3 - a2) / (4 : Int)) * (3 : Int)))), (.pointer (some ⟨r4, 0, none⟩)), (.func (.func 16) ⟨[]⟩ ⟨[]⟩)]⟩ w5 fun e19 w20 =>
  ∃ n21, e19 = .returned (.int .i64 n21) /\
  J6 (n21) w20)) (
  J6 ((a2 + (((b3 - a2) / (4 : Int)) * (2 : Int)))) w5)) /\ (
  ∀ j22 : Int, ∀ w23 : World, J6 j22 w23 -> ∀ _ _ _ _ _ _ _ _ _ _ _ _ _ _ _ _ _ _ _ _ _ _ _ _ : Value,
  ∃ n48, w23.cell? ⟨r4, 0, none⟩ = some (.int .i64 n48) /\
  BIf (decide (n48 = 0)) (
  K (.tuple ⟨[(.int .i64 j22), (.int .i64 1)]⟩) w23) (
  BIf (decide (n48 = 12)) (
  K (.tuple ⟨[(.int .i64 j22), (.int .i64 2)]⟩) w23) (
  K (.tuple ⟨[(.int .i64 j22), (.int .i64 0)]⟩) w23)))
theorem bQ (data1 : Slc) (a2 : Int) (b3 : Int) {w : World} {R : Ending -> World -> Prop} (h : bf data1 a2 b3 w fun v w' => R (.returned v) w') : Calls Tryd.prog aZ ⟨[data1.v, (.int .i64 a2), (.int .i64 b3), (.func (.func 16) ⟨[]⟩ ⟨[]⟩)]⟩ w R :=
  ae (ann := (.two .none (.two .none (.two .none (.two .none (.two .none (.two .none (.cut [(13, (Sh.int .i64))] ([12, 14] ++ List.range' 33 22) .none .none)))))))) aj mixed Tryd.func35 (Eq.mp (by kernel_rfl) h)
def aY (data1 : Slc) (a2 : Int) (b3 : Int) (w : World) (K : Value -> World -> Prop) : Prop :=
  inR .i64 (b3 - 1) /\
  ∃ (I4 : (Int) -> (Int) -> World -> Prop) (mu5 : (Int) -> (Int) -> World -> Nat), I4 (a2) ((b3 - 1)) w /\ (
  ∀ i6 : Int, ∀ j7 : Int, ∀ w8 : World, I4 i6 j7 w8 -> ∀ _ _ _ _ _ _ _ _ _ _ _ _ _ _ _ _ _ _ _ _ _ : Value,
  BIf (decide (i6 < j7)) (
  needSome data1.p fun a30 =>
  0 <= j7 /\ j7 < (data1.l : Int) /\
  ∃ n31 : Int, ∃ n32 : Int, ∃ n33 : Int, ∃ n34 : Int, ∃ s35 : Slc, rowAt w8.drew (Addr.add a30 ((Int.toNat j7) * 5)) 0 [(.int .i64 n31), (.int .i64 n32), (.int .i64 n33), (.int .i64 n34), s35.v] /\
  needSome data1.p fun a36 =>
  0 <= i6 /\ i6 < (data1.l : Int) /\
  ∃ n37 : Int, ∃ n38 : Int, ∃ n39 : Int, ∃ n40 : Int, ∃ s41 : Slc, rowAt w8.drew (Addr.add a36 ((Int.toNat i6) * 5)) 0 [(.int .i64 n37), (.int .i64 n38), (.int .i64 n39), (.int .i64 n40), s41.v] /\
  needSome data1.p fun a42 =>
  0 <= i6 /\ i6 < (data1.l : Int) /\
  aw w8.drew (Addr.add a42 ((Int.toNat i6) * 5)) 5 /\ ∀ w43, w43 = setCells w8.drew (Addr.add a42 ((Int.toNat i6) * 5)) 0 [(.int .i64 n31), (.int .i64 n32), (.int .i64 n33), (.int .i64 n34), s35.v] ->
  needSome data1.p fun a44 =>
  0 <= j7 /\ j7 < (data1.l : Int) /\
  aw w43 (Addr.add a44 ((Int.toNat j7) * 5)) 5 /\ ∀ w45, w45 = setCells w43 (Addr.add a44 ((Int.toNat j7) * 5)) 0 [(.int .i64 n37), (.int .i64 n38), (.int .i64 n39), (.int .i64 n40), s41.v] ->
  inR .i64 (i6 + 1) /\
  inR .i64 (j7 - 1) /\
  (I4 ((i6 + 1)) ((j7 - 1)) w45 /\ mu5 ((i6 + 1)) ((j7 - 1)) w45 < mu5 i6 j7 w8)) (
  K (.tuple #[]) w8))
theorem bM (data1 : Slc) (a2 : Int) (b3 : Int) {w : World} {R : Ending -> World -> Prop} (h : aY data1 a2 b3 w fun v w' => R (.returned v) w') : Calls Tryd.prog aV ⟨[data1.v, (.int .i64 a2), (.int .i64 b3), (.func (.func 16) ⟨[]⟩ ⟨[]⟩)]⟩ w R :=
  ae (ann := (.two .none (.two .none (.one (.loop [(8, (Sh.int .i64)), (9, (Sh.int .i64))] (List.range' 13 21) .none))))) aj mixed Tryd.func36 (Eq.mp (by kernel_rfl) h)
end Go.D

