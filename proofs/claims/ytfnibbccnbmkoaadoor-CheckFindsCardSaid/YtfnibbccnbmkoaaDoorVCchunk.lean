/-
  WHAT IS PROVED: verification conditions of functions of this program, each with its soundness. No further conditions.
-/
import Derived.Test.YtfnibbccnbmkoaaDoorBase
set_option linter.unusedSimpArgs false
set_option maxRecDepth 100000
set_option linter.unusedVariables false
namespace Go.D
open Go Go.Proofs
def eS (s1 : Slc) (n2 : Int) (w : World) (K : Value -> World -> Prop) : Prop :=
  aK w (.cells ⟨[s1.v]⟩ 33) fun r3 w4 =>
  aK w4 (.cells ⟨[(.int .i64 n2)]⟩ 3) fun r5 w6 =>
  ∃ n7, w6.cell? ⟨r5, 0, none⟩ = some (.int .i64 n7) /\
  BIf (decide (n7 < 1)) (
  False) (
  K (.func (.func 29) ⟨[]⟩ ⟨[(.pointer (some ⟨r3, 0, none⟩)), (.pointer (some ⟨r5, 0, none⟩))]⟩) w6)
theorem gw (s1 : Slc) (n2 : Int) {w : World} {R : Ending -> World -> Prop} (h : eS s1 n2 w fun v w' => R (.returned v) w') : Calls Tryd.prog cO ⟨[s1.v, (.int .i64 n2)]⟩ w R :=
  ae (ann := .none) aj mixed Tryd.func19 (Eq.mp (by kernel_rfl) h)
def eg (lr1 : Nat) (cap2 : Option Addr) (cap3 : Option Addr) (w : World) (K : Value -> World -> Prop) : Prop :=
  ∃ (I4 : (Int) -> World -> Prop) (mu5 : (Int) -> World -> Nat), I4 ((0 : Int)) w /\ (
  ∀ i6 : Int, ∀ w7 : World, I4 i6 w7 -> ∀ _ _ _ _ _ _ _ _ _ _ _ _ _ _ _ _ _ _ _ _ _ _ _ _ _ _ : Value,
  needSome cap2 fun a34 =>
  ∃ s35, w7.cell? a34 = some (Slc.v s35) /\
  BIf (decide (i6 < (s35.l : Int))) (
  needSome cap3 fun a36 =>
  ∃ n37, w7.drew.cell? a36 = some (.int .i64 n37) /\
  needSome cap2 fun a38 =>
  ∃ s39, w7.drew.cell? a38 = some (Slc.v s39) /\
  0 <= i6 /\ i6 <= (s39.l : Int) /\ (s39.l : Int) <= (s39.c : Int) /\ (s39.c : Int) <= (s39.c : Int) /\
  needSome cap2 fun a41 =>
  ∃ s42, w7.drew.cell? a41 = some (Slc.v s42) /\
  inR .i64 (i6 + (if (((Slc.sub s39 1 (Int.toNat i6) s39.l s39.c).l : Nat) : Int) < n37 then (((Slc.sub s39 1 (Int.toNat i6) s39.l s39.c).l : Nat) : Int) else n37)) /\
  inR .i64 (i6 + (if (((Slc.sub s39 1 (Int.toNat i6) s39.l s39.c).l : Nat) : Int) < n37 then (((Slc.sub s39 1 (Int.toNat i6) s39.l s39.c).l : Nat) : Int) else n37)) /\
  0 <= i6 /\ i6 <= (i6 + (if (((Slc.sub s39 1 (Int.toNat i6) s39.l s39.c).l : Nat) : Int) < n37 then (((Slc.sub s39 1 (Int.toNat i6) s39.l s39.c).l : Nat) : Int) else n37)) /\ (i6 + (if (((Slc.sub s39 1 (Int.toNat i6) s39.l s39.c).l : Nat) : Int) < n37 then (((Slc.sub s39 1 (Int.toNat i6) s39.l s39.c).l : Nat) : Int) else n37)) <= (i6 + (if (((Slc.sub s39 1 (Int.toNat i6) s39.l s39.c).l : Nat) : Int) < n37 then (((Slc.sub s39 1 (Int.toNat i6) s39.l s39.c).l : Nat) : Int) else n37)) /\ (i6 + (if (((Slc.sub s39 1 (Int.toNat i6) s39.l s39.c).l : Nat) : Int) < n37 then (((Slc.sub s39 1 (Int.toNat i6) s39.l s39.c).l : Nat) : Int) else n37)) <= (s42.c : Int) /\
  dD Tryd.prog lr1 ⟨[(Slc.v (Slc.sub s42 1 (Int.toNat i6) (Int.toNat (i6 + (if (((Slc.sub s39 1 (Int.toNat i6) s39.l s39.c).l : Nat) : Int) < n37 then (((Slc.sub s39 1 (Int.toNat i6) s39.l s39.c).l : Nat) : Int) else n37))) (Int.toNat (i6 + (if (((Slc.sub s39 1 (Int.toNat i6) s39.l s39.c).l : Nat) : Int) < n37 then (((Slc.sub s39 1 (Int.toNat i6) s39.l s39.c).l : Nat) : Int) else n37)))))]⟩ w7.drew fun e44 w45 =>
  ∃ b46, e44 = .returned (.bool b46) /\
  BIf (!b46) (
  K (.tuple #[]) w45) (
  needSome cap3 fun a47 =>
  ∃ n48, w45.cell? a47 = some (.int .i64 n48) /\
  inR .i64 (i6 + n48) /\
  (I4 ((i6 + n48)) w45 /\ mu5 ((i6 + n48)) w45 < mu5 i6 w7))) (
  K (.tuple #[]) w7))
theorem fJ (lr1 : Nat) (cap2 : Option Addr) (cap3 : Option Addr) {w : World} {R : Ending -> World -> Prop} (h : eg lr1 cap2 cap3 w fun v w' => R (.returned v) w') : Calls Tryd.prog bF ⟨[(.func (.yield lr1) ⟨[]⟩ ⟨[]⟩), (.pointer cap2), (.pointer cap3)]⟩ w R :=
  gR (ann := (.two .none (.one (.loop [(4, (Sh.int .i64))] (List.range' 5 26) .none)))) aj mixed Tryd.func29 (Eq.mp (by kernel_rfl) h)
end Go.D

