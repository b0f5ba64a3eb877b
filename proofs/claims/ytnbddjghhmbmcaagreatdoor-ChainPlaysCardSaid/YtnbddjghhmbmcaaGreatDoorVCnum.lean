/-
  WHAT IS PROVED: verification conditions of functions of this program, each with its soundness. No further conditions.
-/
import Derived.Test.YtnbddjghhmbmcaaGreatDoorBase
set_option linter.unusedSimpArgs false
set_option maxRecDepth 100000
set_option linter.unusedVariables false
namespace Go.D
open Go Go.Proofs
def nK (e1 : Value) (w : World) (K : Value -> World -> Prop) : Prop :=
  isI e1 /\
  BIf (isNilI e1) (
  K (.int .i64 0) w) (
  ∃ v2, w.cell? ⟨aD, 0, none⟩ = some v2 /\
  ∃ v3, w.cell? ⟨iQ, 0, none⟩ = some v3 /\
  ∃ v4, w.cell? ⟨jJ, 0, none⟩ = some v4 /\
  ∃ v5, w.cell? ⟨aH, 0, none⟩ = some v5 /\
  ∃ v6, w.cell? ⟨zM, 0, none⟩ = some v6 /\
  ∃ v7, w.cell? ⟨xo, 0, none⟩ = some v7 /\
  ∃ v8, w.cell? ⟨xp, 0, none⟩ = some v8 /\
  ∃ v9, w.cell? ⟨fN, 0, none⟩ = some v9 /\
  ∃ v10, w.cell? ⟨eK, 0, none⟩ = some v10 /\
  ∃ v11, w.cell? ⟨ez, 0, none⟩ = some v11 /\
  ∃ v12, w.cell? ⟨eL, 0, none⟩ = some v12 /\
  ∃ v13, w.cell? ⟨dW, 0, none⟩ = some v13 /\
  ∃ v14, w.cell? ⟨lG, 0, none⟩ = some v14 /\
  ∃ v15, w.cell? ⟨jX, 0, none⟩ = some v15 /\
  ∃ v16, w.cell? ⟨vh, 0, none⟩ = some v16 /\
  ∃ v17, w.cell? ⟨lH, 0, none⟩ = some v17 /\
  ∃ v18, w.cell? ⟨iR, 0, none⟩ = some v18 /\
  ∃ v19, w.cell? ⟨vi, 0, none⟩ = some v19 /\
  ∃ v20, w.cell? ⟨vj, 0, none⟩ = some v20 /\
  oneK v2 (
  oneK v3 (
  oneK v4 (
  oneK v5 (
  oneK v6 (
  oneK v7 (
  oneK v8 (
  oneK v9 (
  oneK v10 (
  oneK v11 (
  oneK v12 (
  oneK v13 (
  oneK v14 (
  oneK v15 (
  oneK v16 (
  oneK v17 (
  oneK v18 (
  oneK v19 (
  oneK v20 (
  aA w (.cells ⟨[v2, v3, v4, v5, v6, v7, v8, v9, v10, v11, v12, v13, v14, v15, v16, v17, v18, v19, v20]⟩ 42) fun r21 w22 =>
  ∃ (I23 : (Int) -> World -> Prop) (mu24 : (Int) -> World -> Nat), I23 ((0 : Int)) w22 /\ (
  ∀ i25 : Int, ∀ w26 : World, I23 i25 w26 -> ∀ _ _ _ _ _ _ _ _ _ _ _ _ _ : Value,
  BIf (decide (i25 < ((19 : Nat) : Int))) (
  0 <= i25 /\ i25 < ((19 : Nat) : Int) /\
  ∃ v40, w26.cell? (Addr.add ⟨r21, 0, none⟩ ((Int.toNat i25) * 1)) = some v40 /\
  Calls Tryz.prog gK ⟨[e1, v40]⟩ w26 fun e41 w42 =>
  ∃ b43, e41 = .returned (.bool b43) /\
  BIf b43 (
  inR .i64 (i25 + 1) /\
  K (.int .i64 (i25 + 1)) w42) (
  inR .i64 (i25 + 1) /\
  (I23 ((i25 + 1)) w42 /\ mu24 ((i25 + 1)) w42 < mu24 i25 w26))) (
  K (.int .i64 (-1 : Int)) w26))))))))))))))))))))))
theorem kH (e1 : Value) {w : World} {R : Ending -> World -> Prop} (h : nK e1 w fun v w' => R (.returned v) w') : Calls Tryz.prog az ⟨[e1]⟩ w R :=
  ab (ann := (.two .none (.two .none (.two .none (.two (.two .none (.one (.loop [(30, (Sh.int .i64))] ([2, 4, 5] ++ List.range' 31 10) .none))) .none))))) ag mixed Tryz.func13 (Eq.mp (by kernel_rfl) h)
end Go.D

