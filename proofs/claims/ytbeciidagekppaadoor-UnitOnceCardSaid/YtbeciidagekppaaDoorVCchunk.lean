/-
  WHAT IS PROVED: verification conditions of functions of this program, each with its soundness. No further conditions.
-/
import Derived.Test.YtbeciidagekppaaDoorBase
set_option linter.unusedSimpArgs false
set_option maxRecDepth 100000
set_option linter.unusedVariables false
namespace Go.D
open Go Go.Proofs
/-- slices.Chunk[[]byte,byte] -/
def slices_Chunk_byte (s1 : Slc) (n2 : Int) (w : World) (K : Value → World → Prop) : Prop :=
  newS w (.cells ⟨[(Slc.v s1)]⟩ 36) fun r3 w4 =>
  newS w4 (.cells ⟨[(Value.int .i64 n2)]⟩ 3) fun r5 w6 =>
  ∃ n7 : Int, World.cell? w6 (⟨r5, 0, none⟩ : Addr) = some (Value.int .i64 n7) ∧
  BIf (decide (n7 < (1 : Int))) (
    False) (
    K (Value.func (.func 70) ⟨[]⟩ ⟨[(Value.pointer (some (⟨r3, 0, none⟩ : Addr))), (Value.pointer (some (⟨r5, 0, none⟩ : Addr)))]⟩) w6)

theorem slices_Chunk_byte_eq (s1 : Slc) (n2 : Int) (w : World) (K : Value → World → Prop) : slices_Chunk_byte s1 n2 w K = denF Tryd.prog callB Tryd.f53 .none [(Slc.v s1), (Value.int .i64 n2)] w K := by kernel_rfl
theorem slices_Chunk_byte_ok (s1 : Slc) (n2 : Int) {w : World} {R : Ending → World → Prop} (h : slices_Chunk_byte s1 n2 w fun v w' => R (.returned v) w') : Calls Tryd.prog fn_slices_Chunk_byte ⟨[(Slc.v s1), (Value.int .i64 n2)]⟩ w R :=
  calls_of_den callB_ok mixed Tryd.func53 (slices_Chunk_byte_eq s1 n2 w _ ▸ h)

/-- slices.Chunk[[]byte,byte]$1 -/
def slices_Chunk_byte_1 (lr1 : Nat) (cap2 : Option Addr) (cap3 : Option Addr) (w : World) (K : Value → World → Prop) : Prop :=
  ∃ (I4 : (Int) → World → Prop) (mu5 : (Int) → World → Nat), I4 ((0 : Int)) w ∧ (
  ∀ i6 : Int, ∀ w7 : World, I4 i6 w7 → ∀ u8 u9 u10 u11 u12 u13 u14 u15 u16 u17 u18 u19 u20 u21 u22 u23 u24 u25 u26 u27 u28 u29 u30 u31 u32 u33 : Value,
    needSome cap2 fun a34 =>
    ∃ s35 : Slc, World.cell? w7 a34 = some (Slc.v s35) ∧
    BIf (decide (i6 < ((s35.l : Nat) : Int))) (
      needSome cap3 fun a36 =>
      ∃ n37 : Int, World.cell? (World.drew w7) a36 = some (Value.int .i64 n37) ∧
      needSome cap2 fun a38 =>
      ∃ s39 : Slc, World.cell? (World.drew w7) a38 = some (Slc.v s39) ∧
      0 ≤ i6 ∧ i6 ≤ ((s39.l : Nat) : Int) ∧ ((s39.l : Nat) : Int) ≤ ((s39.c : Nat) : Int) ∧ ((s39.c : Nat) : Int) ≤ ((s39.c : Nat) : Int) ∧
      needSome cap2 fun a41 =>
      ∃ s42 : Slc, World.cell? (World.drew w7) a41 = some (Slc.v s42) ∧
      inR .i64 (i6 + (if (((Slc.sub s39 1 (Int.toNat i6) s39.l s39.c).l : Nat) : Int) < n37 then (((Slc.sub s39 1 (Int.toNat i6) s39.l s39.c).l : Nat) : Int) else n37)) ∧
      inR .i64 (i6 + (if (((Slc.sub s39 1 (Int.toNat i6) s39.l s39.c).l : Nat) : Int) < n37 then (((Slc.sub s39 1 (Int.toNat i6) s39.l s39.c).l : Nat) : Int) else n37)) ∧
      0 ≤ i6 ∧ i6 ≤ (i6 + (if (((Slc.sub s39 1 (Int.toNat i6) s39.l s39.c).l : Nat) : Int) < n37 then (((Slc.sub s39 1 (Int.toNat i6) s39.l s39.c).l : Nat) : Int) else n37)) ∧ (i6 + (if (((Slc.sub s39 1 (Int.toNat i6) s39.l s39.c).l : Nat) : Int) < n37 then (((Slc.sub s39 1 (Int.toNat i6) s39.l s39.c).l : Nat) : Int) else n37)) ≤ (i6 + (if (((Slc.sub s39 1 (Int.toNat i6) s39.l s39.c).l : Nat) : Int) < n37 then (((Slc.sub s39 1 (Int.toNat i6) s39.l s39.c).l : Nat) : Int) else n37)) ∧ (i6 + (if (((Slc.sub s39 1 (Int.toNat i6) s39.l s39.c).l : Nat) : Int) < n37 then (((Slc.sub s39 1 (Int.toNat i6) s39.l s39.c).l : Nat) : Int) else n37)) ≤ ((s42.c : Nat) : Int) ∧
      YieldC Tryd.prog lr1 ⟨[(Slc.v (Slc.sub s42 1 (Int.toNat i6) (Int.toNat (i6 + (if (((Slc.sub s39 1 (Int.toNat i6) s39.l s39.c).l : Nat) : Int) < n37 then (((Slc.sub s39 1 (Int.toNat i6) s39.l s39.c).l : Nat) : Int) else n37))) (Int.toNat (i6 + (if (((Slc.sub s39 1 (Int.toNat i6) s39.l s39.c).l : Nat) : Int) < n37 then (((Slc.sub s39 1 (Int.toNat i6) s39.l s39.c).l : Nat) : Int) else n37)))))]⟩ (World.drew w7) fun e44 w45 =>
      ∃ b46 : Bool, e44 = .returned (.bool b46) ∧
      BIf (!b46) (
        K (Value.tuple #[]) w45) (
        needSome cap3 fun a47 =>
        ∃ n48 : Int, World.cell? w45 a47 = some (Value.int .i64 n48) ∧
        inR .i64 (i6 + n48) ∧
        (I4 ((i6 + n48)) w45 ∧ mu5 ((i6 + n48)) w45 < mu5 i6 w7))) (
      K (Value.tuple #[]) w7))

theorem slices_Chunk_byte_1_eq (lr1 : Nat) (cap2 : Option Addr) (cap3 : Option Addr) (w : World) (K : Value → World → Prop) : slices_Chunk_byte_1 lr1 cap2 cap3 w K = denY Tryd.prog callB Tryd.f70 (.two .none (.one (.loop [(4, (Sh.int .i64))] [5, 6, 7, 8, 9, 10, 11, 12, 13, 14, 15, 16, 17, 18, 19, 20, 21, 22, 23, 24, 25, 26, 27, 28, 29, 30] .none))) [(Value.func (.yield lr1) ⟨[]⟩ ⟨[]⟩), (Value.pointer cap2), (Value.pointer cap3)] w K := by kernel_rfl
theorem slices_Chunk_byte_1_ok (lr1 : Nat) (cap2 : Option Addr) (cap3 : Option Addr) {w : World} {R : Ending → World → Prop} (h : slices_Chunk_byte_1 lr1 cap2 cap3 w fun v w' => R (.returned v) w') : Calls Tryd.prog fn_slices_Chunk_byte_1 ⟨[(Value.func (.yield lr1) ⟨[]⟩ ⟨[]⟩), (Value.pointer cap2), (Value.pointer cap3)]⟩ w R :=
  calls_of_denY callB_ok mixed Tryd.func70 (slices_Chunk_byte_1_eq lr1 cap2 cap3 w _ ▸ h)

end Go.D
