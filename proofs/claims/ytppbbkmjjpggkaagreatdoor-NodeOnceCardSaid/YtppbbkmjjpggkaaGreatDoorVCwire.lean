/-
  WHAT IS PROVED: verification conditions of functions of this program, each with its soundness. No further conditions.
-/
import Derived.Test.YtppbbkmjjpggkaaGreatDoorBase
set_option linter.unusedSimpArgs false
set_option maxRecDepth 100000
set_option linter.unusedVariables false
namespace Go.D
open Go Go.Proofs
def vW  (w : World) (K : Value -> World -> Prop) : Prop :=
  ∃ v1, w.cell? ⟨aD, 0, none⟩ = some v1 /\
  ∃ v2, w.cell? ⟨ct, 0, none⟩ = some v2 /\
  ∃ v3, w.cell? ⟨bw, 0, none⟩ = some v3 /\
  ∃ v4, w.cell? ⟨aw, 0, none⟩ = some v4 /\
  ∃ v5, w.cell? ⟨jV, 0, none⟩ = some v5 /\
  ∃ v6, w.cell? ⟨vK, 0, none⟩ = some v6 /\
  ∃ v7, w.cell? ⟨vL, 0, none⟩ = some v7 /\
  ∃ v8, w.cell? ⟨dI, 0, none⟩ = some v8 /\
  ∃ v9, w.cell? ⟨gn, 0, none⟩ = some v9 /\
  ∃ v10, w.cell? ⟨fh, 0, none⟩ = some v10 /\
  ∃ v11, w.cell? ⟨dQ, 0, none⟩ = some v11 /\
  ∃ v12, w.cell? ⟨dP, 0, none⟩ = some v12 /\
  ∃ v13, w.cell? ⟨gH, 0, none⟩ = some v13 /\
  ∃ v14, w.cell? ⟨jg, 0, none⟩ = some v14 /\
  ∃ v15, w.cell? ⟨ue, 0, none⟩ = some v15 /\
  ∃ v16, w.cell? ⟨fa, 0, none⟩ = some v16 /\
  ∃ v17, w.cell? ⟨gS, 0, none⟩ = some v17 /\
  ∃ v18, w.cell? ⟨ug, 0, none⟩ = some v18 /\
  ∃ v19, w.cell? ⟨uh, 0, none⟩ = some v19 /\
  oneK v1 (
  oneK v2 (
  oneK v3 (
  oneK v4 (
  oneK v5 (
  oneK v6 (
  oneK v7 (
  oneK v8 (
  oneK v9 (
  oneK v10 (
  oneK v11 (
  oneK v12 (
  oneK v13 (
  oneK v14 (
  oneK v15 (
  oneK v16 (
  oneK v17 (
  oneK v18 (
  oneK v19 (
  aH w (.cells ⟨[v1, v2, v3, v4, v5, v6, v7, v8, v9, v10, v11, v12, v13, v14, v15, v16, v17, v18, v19]⟩ 51) fun r20 w21 =>
  K (Slc.v (⟨(some ⟨r20, 0, none⟩), 19, 19⟩ : Slc)) w21)))))))))))))))))))
theorem xq  {w : World} {R : Ending -> World -> Prop} (h : vW  w fun v w' => R (.returned v) w') : Calls Tryz.prog gm ⟨[]⟩ w R :=
  ab (ann := .none) ah mixed Tryz.func73 (Eq.mp (by kernel_rfl) h)
def xt (e1 : Value) (cap2 : Option Addr) (w : World) (K : Value -> World -> Prop) : Prop :=
  needSome cap2 fun a3 =>
  ∃ v4, w.cell? a3 = some v4 /\
  Calls Tryz.prog jO ⟨[v4, e1]⟩ w fun e5 w6 =>
  ∃ b7, e5 = .returned (.bool b7) /\
  K (.bool b7) w6
theorem tq (e1 : Value) (cap2 : Option Addr) {w : World} {R : Ending -> World -> Prop} (h : xt e1 cap2 w fun v w' => R (.returned v) w') : Calls Tryz.prog fZ ⟨[e1, (.pointer cap2)]⟩ w R :=
  ab (ann := .none) ah mixed Tryz.func85 (Eq.mp (by kernel_rfl) h)
def cR (s1 : Slc) (c2 : Option Addr) (w : World) (K : Value -> World -> Prop) : Prop :=
  ∃ (I3 : (Int) -> World -> Prop) (mu4 : (Int) -> World -> Nat), I3 ((0 : Int)) w /\ (
  ∀ i5 : Int, ∀ w6 : World, I3 i5 w6 -> ∀ _ _ _ _ _ _ _ _ _ _ _ _ : Value,
  BIf (decide (i5 < (s1.l : Int))) (
  needSome s1.p fun a19 =>
  0 <= i5 /\ i5 < (s1.l : Int) /\
  ∃ v20, w6.cell? (Addr.add a19 ((Int.toNat i5) * 1)) = some v20 /\
  Calls Tryz.prog fZ ⟨[v20, (.pointer c2)]⟩ w6 fun e21 w22 =>
  ∃ b23, e21 = .returned (.bool b23) /\
  BIf b23 (
  K (.int .i64 i5) w22) (
  inR .i64 (i5 + (1 : Int)) /\
  (I3 ((i5 + (1 : Int))) w22 /\ mu4 ((i5 + (1 : Int))) w22 < mu4 i5 w6))) (
  K (.int .i64 (-1 : Int)) w6))
theorem fH (s1 : Slc) (c2 : Option Addr) {w : World} {R : Ending -> World -> Prop} (h : cR s1 c2 w fun v w' => R (.returned v) w') : Calls Tryz.prog dB ⟨[(Slc.v s1), (.func (.func 85) ⟨[]⟩ ⟨[(.pointer c2)]⟩)]⟩ w R :=
  ab (ann := (.two .none (.two (.two .none (.one (.loop [(8, (Sh.int .i64))] ([4, 5] ++ List.range' 9 10) .none))) .none))) ah mixed Tryz.func84 (Eq.mp (by kernel_rfl) h)
def Ar (err1 : Value) (w : World) (K : Value -> World -> Prop) : Prop :=
  oneK err1 (
  aH w (.cells ⟨[err1]⟩ 51) fun r2 w3 =>
  ∃ v4, w3.cell? ⟨r2, 0, none⟩ = some v4 /\
  isI v4 /\
  BIf (isNilI v4) (
  K (.int .i64 (0 : Int)) w3) (
  Calls Tryz.prog gm ⟨[]⟩ w3 fun e5 w6 =>
  ∃ s7, e5 = .returned (Slc.v s7) /\
  Calls Tryz.prog dB ⟨[(Slc.v s7), (.func (.func 85) ⟨[]⟩ ⟨[(.pointer (some ⟨r2, 0, none⟩))]⟩)]⟩ w6 fun e8 w9 =>
  ∃ n10, e8 = .returned (.int .i64 n10) /\
  BIf (decide (n10 < (0 : Int))) (
  inR .i64 ((s7.l : Int) + (1 : Int)) /\
  K (.int .i64 ((s7.l : Int) + (1 : Int))) w9) (
  inR .i64 (n10 + (1 : Int)) /\
  K (.int .i64 (n10 + (1 : Int))) w9)))
theorem oS (err1 : Value) {w : World} {R : Ending -> World -> Prop} (h : Ar err1 w fun v w' => R (.returned v) w') : Calls Tryz.prog eo ⟨[err1]⟩ w R :=
  ab (ann := .none) ah mixed Tryz.func42 (Eq.mp (by kernel_rfl) h)
end Go.D

