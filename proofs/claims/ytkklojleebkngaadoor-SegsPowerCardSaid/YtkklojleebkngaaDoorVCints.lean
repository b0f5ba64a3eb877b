/-
  WHAT IS PROVED: verification conditions of functions of this program, each with its soundness. No further conditions.
-/
import Derived.Test.YtkklojleebkngaaDoorBase
set_option linter.unusedSimpArgs false
set_option maxRecDepth 100000
set_option linter.unusedVariables false
namespace Go.D
open Go Go.Proofs
/-- tidewater/tidewaternum.SameInts -/
def tidewaternum_SameInts (a1 : Slc) (b2 : Slc) (w : World) (K : Value → World → Prop) : Prop :=
  BIf (!decide (((a1.l : Nat) : Int) = ((b2.l : Nat) : Int))) (
    K (Value.bool false) w) (
    ∃ (I3 : (Int) → World → Prop) (mu4 : (Int) → World → Nat), I3 ((0 : Int)) w ∧ (
    ∀ i5 : Int, ∀ w6 : World, I3 i5 w6 → ∀ u7 u8 u9 u10 u11 u12 u13 u14 u15 u16 u17 u18 u19 u20 : Value,
      BIf (decide (i5 < ((a1.l : Nat) : Int))) (
        needSome a1.p fun a21 =>
        0 ≤ i5 ∧ i5 < ((a1.l : Nat) : Int) ∧
        ∃ n22 : Int, World.cell? (World.drew w6) (Addr.add a21 ((Int.toNat i5) * 1)) = some (Value.int .i64 n22) ∧
        needSome b2.p fun a23 =>
        0 ≤ i5 ∧ i5 < ((b2.l : Nat) : Int) ∧
        ∃ n24 : Int, World.cell? (World.drew w6) (Addr.add a23 ((Int.toNat i5) * 1)) = some (Value.int .i64 n24) ∧
        BIf (!decide (n22 = n24)) (
          K (Value.bool false) (World.drew w6)) (
          inR .i64 (i5 + (1 : Int)) ∧
          (I3 ((i5 + (1 : Int))) (World.drew w6) ∧ mu4 ((i5 + (1 : Int))) (World.drew w6) < mu4 i5 w6))) (
        K (Value.bool true) w6)))

theorem tidewaternum_SameInts_eq (a1 : Slc) (b2 : Slc) (w : World) (K : Value → World → Prop) : tidewaternum_SameInts a1 b2 w K = denF Tryd.prog callB Tryd.f43 (.two .none (.two .none (.two (.two .none (.one (.loop [(13, (Sh.int .i64))] [4, 5, 14, 15, 16, 17, 18, 19, 20, 21, 22, 23, 24, 25] .none))) .none))) [(Slc.v a1), (Slc.v b2)] w K := by kernel_rfl
theorem tidewaternum_SameInts_ok (a1 : Slc) (b2 : Slc) {w : World} {R : Ending → World → Prop} (h : tidewaternum_SameInts a1 b2 w fun v w' => R (.returned v) w') : Calls Tryd.prog fn_tidewaternum_SameInts ⟨[(Slc.v a1), (Slc.v b2)]⟩ w R :=
  calls_of_den callB_ok mixed Tryd.func43 (tidewaternum_SameInts_eq a1 b2 w _ ▸ h)

end Go.D
