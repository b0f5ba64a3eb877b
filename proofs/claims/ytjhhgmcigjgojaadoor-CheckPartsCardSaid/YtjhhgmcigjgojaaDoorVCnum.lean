/-
  WHAT IS PROVED: verification conditions of functions of this program, each with its soundness. No further conditions.
-/
import Derived.Test.YtjhhgmcigjgojaaDoorBase
set_option linter.unusedSimpArgs false
set_option maxRecDepth 100000
set_option linter.unusedVariables false
namespace Go.D
open Go Go.Proofs
/-- tidewater/tidewaternum.Num -/
def tidewaternum_Num (e1 : Value) (w : World) (K : Value → World → Prop) : Prop :=
  isI e1 ∧
  BIf (isNilI e1) (
    K (Value.int .i64 (0 : Int)) w) (
    ∃ v2 : Value, World.cell? w (⟨gl_ErrRange, 0, none⟩ : Addr) = some v2 ∧
    ∃ v3 : Value, World.cell? w (⟨gl_ErrShort, 0, none⟩ : Addr) = some v3 ∧
    ∃ v4 : Value, World.cell? w (⟨gl_ErrLong, 0, none⟩ : Addr) = some v4 ∧
    ∃ v5 : Value, World.cell? w (⟨gl_ErrForm, 0, none⟩ : Addr) = some v5 ∧
    ∃ v6 : Value, World.cell? w (⟨gl_ErrSum, 0, none⟩ : Addr) = some v6 ∧
    ∃ v7 : Value, World.cell? w (⟨gl_ErrRune, 0, none⟩ : Addr) = some v7 ∧
    ∃ v8 : Value, World.cell? w (⟨gl_ErrName, 0, none⟩ : Addr) = some v8 ∧
    ∃ v9 : Value, World.cell? w (⟨gl_ErrSealed, 0, none⟩ : Addr) = some v9 ∧
    ∃ v10 : Value, World.cell? w (⟨gl_ErrWritten, 0, none⟩ : Addr) = some v10 ∧
    ∃ v11 : Value, World.cell? w (⟨gl_ErrUnwritten, 0, none⟩ : Addr) = some v11 ∧
    ∃ v12 : Value, World.cell? w (⟨gl_ErrTrimmed, 0, none⟩ : Addr) = some v12 ∧
    ∃ v13 : Value, World.cell? w (⟨gl_ErrDown, 0, none⟩ : Addr) = some v13 ∧
    ∃ v14 : Value, World.cell? w (⟨gl_ErrFull, 0, none⟩ : Addr) = some v14 ∧
    ∃ v15 : Value, World.cell? w (⟨gl_ErrEpoch, 0, none⟩ : Addr) = some v15 ∧
    ∃ v16 : Value, World.cell? w (⟨gl_ErrMoved, 0, none⟩ : Addr) = some v16 ∧
    ∃ v17 : Value, World.cell? w (⟨gl_ErrNone, 0, none⟩ : Addr) = some v17 ∧
    ∃ v18 : Value, World.cell? w (⟨gl_ErrState, 0, none⟩ : Addr) = some v18 ∧
    ∃ v19 : Value, World.cell? w (⟨gl_ErrClash, 0, none⟩ : Addr) = some v19 ∧
    ∃ v20 : Value, World.cell? w (⟨gl_ErrStale, 0, none⟩ : Addr) = some v20 ∧
    oneK v2 (
    oneK v3 (
    oneK v4 (
    oneK v5 (
    oneK v6 (
    oneK v7 (
    oneK v8 (
    oneK v9 (
    oneK v10 (
    oneK v11 (
    oneK v12 (
    oneK v13 (
    oneK v14 (
    oneK v15 (
    oneK v16 (
    oneK v17 (
    oneK v18 (
    oneK v19 (
    oneK v20 (
    newS w (.cells ⟨[v2, v3, v4, v5, v6, v7, v8, v9, v10, v11, v12, v13, v14, v15, v16, v17, v18, v19, v20]⟩ 27) fun r21 w22 =>
    ∃ (I23 : (Int) → World → Prop) (mu24 : (Int) → World → Nat), I23 ((0 : Int)) w22 ∧ (
    ∀ i25 : Int, ∀ w26 : World, I23 i25 w26 → ∀ u27 u28 u29 u30 u31 u32 u33 u34 u35 u36 u37 u38 u39 : Value,
      BIf (decide (i25 < ((19 : Nat) : Int))) (
        0 ≤ i25 ∧ i25 < ((19 : Nat) : Int) ∧
        ∃ v40 : Value, World.cell? w26 (Addr.add (⟨r21, 0, none⟩ : Addr) ((Int.toNat i25) * 1)) = some v40 ∧
        Calls Tryd.prog fn_errors_Is ⟨[e1, v40]⟩ w26 fun e41 w42 =>
        ∃ b43 : Bool, e41 = .returned (Value.bool b43) ∧
        BIf b43 (
          inR .i64 (i25 + (1 : Int)) ∧
          K (Value.int .i64 (i25 + (1 : Int))) w42) (
          inR .i64 (i25 + (1 : Int)) ∧
          (I23 ((i25 + (1 : Int))) w42 ∧ mu24 ((i25 + (1 : Int))) w42 < mu24 i25 w26))) (
        K (Value.int .i64 (-1 : Int)) w26))))))))))))))))))))))

theorem tidewaternum_Num_eq (e1 : Value) (w : World) (K : Value → World → Prop) : tidewaternum_Num e1 w K = denF Tryd.prog callB Tryd.f8 (.two .none (.two .none (.two .none (.two (.two .none (.one (.loop [(30, (Sh.int .i64))] [2, 4, 5, 31, 32, 33, 34, 35, 36, 37, 38, 39, 40] .none))) .none)))) [e1] w K := by kernel_rfl
theorem tidewaternum_Num_ok (e1 : Value) {w : World} {R : Ending → World → Prop} (h : tidewaternum_Num e1 w fun v w' => R (.returned v) w') : Calls Tryd.prog fn_tidewaternum_Num ⟨[e1]⟩ w R :=
  calls_of_den callB_ok mixed Tryd.func8 (tidewaternum_Num_eq e1 w _ ▸ h)

/-- tidewater/tidewaternum.Bytes -/
def tidewaternum_Bytes (a1 : Slc) (w : World) (K : Value → World → Prop) : Prop :=
  inR .i64 (((a1.l : Nat) : Int) + (6 : Int)) ∧
  0 ≤ (0 : Int) ∧ (0 : Int) ≤ (((a1.l : Nat) : Int) + (6 : Int)) ∧ (((a1.l : Nat) : Int) + (6 : Int)) ≤ 2 ^ 30 ∧
  newS w (.cells ⟨repl (Int.toNat (((a1.l : Nat) : Int) + (6 : Int))) [(Value.int .u8 (0 : Int))]⟩ 5) fun r2 w3 =>
  appendS 1 5 [(Value.int .u8 (0 : Int))] w3 (⟨(some (⟨r2, 0, none⟩ : Addr)), 0, (Int.toNat (((a1.l : Nat) : Int) + (6 : Int)))⟩ : Slc) (.slc a1) fun s4 w5 =>
  newS w5 (.cells ⟨[(Value.int .u8 (201 : Int)), (Value.int .u8 (202 : Int)), (Value.int .u8 (203 : Int)), (Value.int .u8 (204 : Int)), (Value.int .u8 (205 : Int)), (Value.int .u8 (206 : Int))]⟩ 5) fun r6 w7 =>
  appendS 1 5 [(Value.int .u8 (0 : Int))] w7 s4 (.slc (⟨(some (⟨r6, 0, none⟩ : Addr)), 6, 6⟩ : Slc)) fun s8 w9 =>
  0 ≤ (0 : Int) ∧ (0 : Int) ≤ ((a1.l : Nat) : Int) ∧ ((a1.l : Nat) : Int) ≤ ((s8.c : Nat) : Int) ∧ ((s8.c : Nat) : Int) ≤ ((s8.c : Nat) : Int) ∧
  K (Slc.v (Slc.sub s8 1 0 a1.l s8.c)) w9

theorem tidewaternum_Bytes_eq (a1 : Slc) (w : World) (K : Value → World → Prop) : tidewaternum_Bytes a1 w K = denF Tryd.prog callB Tryd.f5 .none [(Slc.v a1)] w K := by kernel_rfl
theorem tidewaternum_Bytes_ok (a1 : Slc) {w : World} {R : Ending → World → Prop} (h : tidewaternum_Bytes a1 w fun v w' => R (.returned v) w') : Calls Tryd.prog fn_tidewaternum_Bytes ⟨[(Slc.v a1)]⟩ w R :=
  calls_of_den callB_ok mixed Tryd.func5 (tidewaternum_Bytes_eq a1 w _ ▸ h)

/-- tidewater/tidewaternum.Kept -/
def tidewaternum_Kept (a1 : Slc) (was2 : Slc) (w : World) (K : Value → World → Prop) : Prop :=
  0 ≤ (0 : Int) ∧ (0 : Int) ≤ ((a1.c : Nat) : Int) ∧ ((a1.c : Nat) : Int) ≤ ((a1.c : Nat) : Int) ∧ ((a1.c : Nat) : Int) ≤ ((a1.c : Nat) : Int) ∧
  ∃ J4 : World → Prop,
  (
    inR .i64 (((was2.l : Nat) : Int) + (6 : Int)) ∧
    BIf (decide ((((Slc.sub a1 1 0 a1.c a1.c).l : Nat) : Int) < (((was2.l : Nat) : Int) + (6 : Int)))) (
      K (Value.bool false) (World.drew w)) (
      0 ≤ (0 : Int) ∧ (0 : Int) ≤ ((was2.l : Nat) : Int) ∧ ((was2.l : Nat) : Int) ≤ (((Slc.sub a1 1 0 a1.c a1.c).c : Nat) : Int) ∧ (((Slc.sub a1 1 0 a1.c a1.c).c : Nat) : Int) ≤ (((Slc.sub a1 1 0 a1.c a1.c).c : Nat) : Int) ∧
      ∃ t6 : List UInt8, bytesAt (World.drew w) (Slc.sub (Slc.sub a1 1 0 a1.c a1.c) 1 0 was2.l (Slc.sub a1 1 0 a1.c a1.c).c) t6 ∧
      ∃ t7 : List UInt8, bytesAt (World.drew w) was2 t7 ∧
      BIf (!decide (t6 = t7)) (
        K (Value.bool false) (World.drew w)) (
        J4 (World.drew w)))) ∧ (
  ∀ w8 : World, J4 w8 → ∀ u9 u10 u11 u12 u13 u14 u15 u16 u17 u18 u19 u20 u21 u22 u23 u24 u25 : Value,
    ∃ (I26 : (Int) → World → Prop) (mu27 : (Int) → World → Nat), I26 ((0 : Int)) w8 ∧ (
    ∀ i28 : Int, ∀ w29 : World, I26 i28 w29 → ∀ u30 u31 u32 u33 u34 u35 u36 u37 u38 u39 u40 u41 u42 u43 u44 u45 : Value,
      BIf (decide (i28 < (6 : Int))) (
        inR .i64 (((was2.l : Nat) : Int) + i28) ∧
        needSome (Slc.sub a1 1 0 a1.c a1.c).p fun a46 =>
        0 ≤ (((was2.l : Nat) : Int) + i28) ∧ (((was2.l : Nat) : Int) + i28) < (((Slc.sub a1 1 0 a1.c a1.c).l : Nat) : Int) ∧
        ∃ n47 : Int, World.cell? w29 (Addr.add a46 ((Int.toNat (((was2.l : Nat) : Int) + i28)) * 1)) = some (Value.int .u8 n47) ∧
        inR .i64 ((201 : Int) + i28) ∧
        BIf (!decide (n47 = (IntKind.wrap .u8 ((201 : Int) + i28)))) (
          K (Value.bool false) w29) (
          inR .i64 (i28 + (1 : Int)) ∧
          (I26 ((i28 + (1 : Int))) w29 ∧ mu27 ((i28 + (1 : Int))) w29 < mu27 i28 w29))) (
        K (Value.bool true) w29)))

theorem tidewaternum_Kept_eq (a1 : Slc) (was2 : Slc) (w : World) (K : Value → World → Prop) : tidewaternum_Kept a1 was2 w K = denF Tryd.prog callB Tryd.f9 (.two .none (.two .none (.cut [] [4, 11, 12, 13, 14, 15, 16, 17, 18, 19, 20, 21, 22, 23, 24, 25, 26] .none (.two (.two .none (.one (.loop [(6, (Sh.int .i64))] [4, 27, 28, 29, 30, 31, 32, 33, 34, 35, 36, 37, 38, 39, 40, 41] .none))) .none)))) [(Slc.v a1), (Slc.v was2)] w K := by kernel_rfl
theorem tidewaternum_Kept_ok (a1 : Slc) (was2 : Slc) {w : World} {R : Ending → World → Prop} (h : tidewaternum_Kept a1 was2 w fun v w' => R (.returned v) w') : Calls Tryd.prog fn_tidewaternum_Kept ⟨[(Slc.v a1), (Slc.v was2)]⟩ w R :=
  calls_of_den callB_ok mixed Tryd.func9 (tidewaternum_Kept_eq a1 was2 w _ ▸ h)

end Go.D
