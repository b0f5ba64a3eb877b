/-
  WHAT IS PROVED: verification conditions of functions of this program, each with its soundness. No further conditions.
-/
import Derived.Test.YtjlolhdndholdaaDoorBase
set_option linter.unusedSimpArgs false
set_option maxRecDepth 100000
set_option linter.unusedVariables false
namespace Go.D
open Go Go.Proofs
/-- tidewater/tidewaternum.Num -/
def tidewaternum_Num (e1 : Value) (w : World) (K : Value → World → Prop) : Prop :=
  isI e1 ∧
  BIf (isNilI e1) (
    K (Value.int .i64 (0 : Int)) w) (
    ∃ v2 : Value, World.cell? w (⟨gl_ErrRange, 0, none⟩ : Addr) = some v2 ∧
    ∃ v3 : Value, World.cell? w (⟨gl_ErrShort, 0, none⟩ : Addr) = some v3 ∧
    ∃ v4 : Value, World.cell? w (⟨gl_ErrLong, 0, none⟩ : Addr) = some v4 ∧
    ∃ v5 : Value, World.cell? w (⟨gl_ErrForm, 0, none⟩ : Addr) = some v5 ∧
    ∃ v6 : Value, World.cell? w (⟨gl_ErrSum, 0, none⟩ : Addr) = some v6 ∧
    ∃ v7 : Value, World.cell? w (⟨gl_ErrRune, 0, none⟩ : Addr) = some v7 ∧
    ∃ v8 : Value, World.cell? w (⟨gl_ErrName, 0, none⟩ : Addr) = some v8 ∧
    ∃ v9 : Value, World.cell? w (⟨gl_ErrSealed, 0, none⟩ : Addr) = some v9 ∧
    ∃ v10 : Value, World.cell? w (⟨gl_ErrWritten, 0, none⟩ : Addr) = some v10 ∧
    ∃ v11 : Value, World.cell? w (⟨gl_ErrUnwritten, 0, none⟩ : Addr) = some v11 ∧
    ∃ v12 : Value, World.cell? w (⟨gl_ErrTrimmed, 0, none⟩ : Addr) = some v12 ∧
    ∃ v13 : Value, World.cell? w (⟨gl_ErrDown, 0, none⟩ : Addr) = some v13 ∧
    ∃ v14 : Value, World.cell? w (⟨gl_ErrFull, 0, none⟩ : Addr) = some v14 ∧
    ∃ v15 : Value, World.cell? w (⟨gl_ErrEpoch, 0, none⟩ : Addr) = some v15 ∧
    ∃ v16 : Value, World.cell? w (⟨gl_ErrMoved, 0, none⟩ : Addr) = some v16 ∧
    ∃ v17 : Value, World.cell? w (⟨gl_ErrNone, 0, none⟩ : Addr) = some v17 ∧
    ∃ v18 : Value, World.cell? w (⟨gl_ErrState, 0, none⟩ : Addr) = some v18 ∧
    ∃ v19 : Value, World.cell? w (⟨gl_ErrClash, 0, none⟩ : Addr) = some v19 ∧
    ∃ v20 : Value, World.cell? w (⟨gl_ErrStale, 0, none⟩ : Addr) = some v20 ∧
    oneK v2 (
    oneK v3 (
    oneK v4 (
    oneK v5 (
    oneK v6 (
    oneK v7 (
    oneK v8 (
    oneK v9 (
    oneK v10 (
    oneK v11 (
    oneK v12 (
    oneK v13 (
    oneK v14 (
    oneK v15 (
    oneK v16 (
    oneK v17 (
    oneK v18 (
    oneK v19 (
    oneK v20 (
    newS w (.cells ⟨[v2, v3, v4, v5, v6, v7, v8, v9, v10, v11, v12, v13, v14, v15, v16, v17, v18, v19, v20]⟩ 31) fun r21 w22 =>
    ∃ (I23 : (Int) → World → Prop) (mu24 : (Int) → World → Nat), I23 ((0 : Int)) w22 ∧ (
    ∀ i25 : Int, ∀ w26 : World, I23 i25 w26 → ∀ u27 u28 u29 u30 u31 u32 u33 u34 u35 u36 u37 u38 u39 : Value,
      BIf (decide (i25 < ((19 : Nat) : Int))) (
        0 ≤ i25 ∧ i25 < ((19 : Nat) : Int) ∧
        ∃ v40 : Value, World.cell? w26 (Addr.add (⟨r21, 0, none⟩ : Addr) ((Int.toNat i25) * 1)) = some v40 ∧
        Calls Tryd.prog fn_errors_Is ⟨[e1, v40]⟩ w26 fun e41 w42 =>
        ∃ b43 : Bool, e41 = .returned (Value.bool b43) ∧
        BIf b43 (
          inR .i64 (i25 + (1 : Int)) ∧
          K (Value.int .i64 (i25 + (1 : Int))) w42) (
          inR .i64 (i25 + (1 : Int)) ∧
          (I23 ((i25 + (1 : Int))) w42 ∧ mu24 ((i25 + (1 : Int))) w42 < mu24 i25 w26))) (
        K (Value.int .i64 (-1 : Int)) w26))))))))))))))))))))))

theorem tidewaternum_Num_eq (e1 : Value) (w : World) (K : Value → World → Prop) : tidewaternum_Num e1 w K = denF Tryd.prog callB Tryd.f18 (.two .none (.two .none (.two .none (.two (.two .none (.one (.loop [(30, (Sh.int .i64))] [2, 4, 5, 31, 32, 33, 34, 35, 36, 37, 38, 39, 40] .none))) .none)))) [e1] w K := by kernel_rfl
theorem tidewaternum_Num_ok (e1 : Value) {w : World} {R : Ending → World → Prop} (h : tidewaternum_Num e1 w fun v w' => R (.returned v) w') : Calls Tryd.prog fn_tidewaternum_Num ⟨[e1]⟩ w R :=
  calls_of_den callB_ok mixed Tryd.func18 (tidewaternum_Num_eq e1 w _ ▸ h)

end Go.D
