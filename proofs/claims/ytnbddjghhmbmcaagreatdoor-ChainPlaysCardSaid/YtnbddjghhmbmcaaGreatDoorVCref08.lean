/-
  WHAT IS PROVED: verification conditions of functions of this program, each with its soundness. No further conditions.
-/
import Derived.Test.YtnbddjghhmbmcaaGreatDoorBase
set_option linter.unusedSimpArgs false
set_option maxRecDepth 100000
set_option linter.unusedVariables false
namespace Go.D
open Go Go.Proofs
def kL (b1 : Slc) (w : World) (K : Value -> World -> Prop) : Prop :=
  inR .i64 ((b1.l : Int) + (63 : Int)) /\
  0 <= ((b1.l : Int) + (63 : Int)) /\ 0 < (64 : Int) /\ inR .i64 ((b1.l : Int) + (63 : Int)) /\
  inR .i64 ((1 : Int) + (((b1.l : Int) + (63 : Int)) / (64 : Int))) /\
  K (.int .i64 ((1 : Int) + (((b1.l : Int) + (63 : Int)) / (64 : Int)))) w
theorem oR (b1 : Slc) {w : World} {R : Ending -> World -> Prop} (h : kL b1 w fun v w' => R (.returned v) w') : Calls Tryz.prog dI ⟨[b1.v]⟩ w R :=
  ab (ann := .none) ag mixed Tryz.func101 (Eq.mp (by kernel_rfl) h)
def gT (s1 : Option Addr) (w : World) (K : Value -> World -> Prop) : Prop :=
  needSome s1 fun a2 =>
  ∃ n3, w.cell? a2 = some (.int .i64 n3) /\
  inR .i64 (n3 - 1) /\
  ∃ (I4 : (Int) -> (Int) -> World -> Prop) (mu5 : (Int) -> (Int) -> World -> Nat), I4 ((-1 : Int)) ((n3 - 1)) w /\ (
  ∀ at6 : Int, ∀ p7 : Int, ∀ w8 : World, I4 at6 p7 w8 -> ∀ _ _ _ _ _ _ _ _ _ _ _ _ _ _ _ _ _ _ _ _ _ _ _ _ _ _ : Value,
  BIf (decide (0 <= p7)) (
  needSome s1 fun a35 =>
  ∃ s36, w8.cell? (a35.add 1) = some (Slc.v s36) /\
  ∃ (I37 : (Bool) -> (Int) -> World -> Prop) (mu38 : (Bool) -> (Int) -> World -> Nat), I37 (false) ((0 : Int)) w8 /\ (
  ∀ taken39 : Bool, ∀ i40 : Int, ∀ w41 : World, I37 taken39 i40 w41 -> ∀ _ _ _ _ _ _ _ _ _ _ _ _ : Value,
  BIf (decide (i40 < (s36.l : Int))) (
  needSome s36.p fun a54 =>
  0 <= i40 /\ i40 < (s36.l : Int) /\
  ∃ n55 : Int, ∃ n56 : Int, ∃ n57 : Int, ∃ s58 : Slc, rowAt w41 (Addr.add a54 ((Int.toNat i40) * 4)) 0 [(.int .i64 n55), (.int .i64 n56), (.int .i64 n57), s58.v] /\
  aA w41 (.cells ⟨[(.int .i64 0), (.int .i64 0), (.int .i64 0), (Slc.v ⟨none, 0, 0⟩)]⟩ 169) fun r59 w60 =>
  aw w60 ⟨r59, 0, none⟩ 4 /\ ∀ w61, w61 = setCells w60 ⟨r59, 0, none⟩ 0 [(.int .i64 n55), (.int .i64 n56), (.int .i64 n57), s58.v] ->
  BIf taken39 (
  inR .i64 (i40 + 1) /\
  (I37 (true) ((i40 + 1)) w61 /\ mu38 (true) ((i40 + 1)) w61 < mu38 taken39 i40 w41)) (
  ∃ n62, w61.cell? ⟨r59, 0, none⟩ = some (.int .i64 n62) /\
  inR .i64 (i40 + 1) /\
  (I37 ((decide (n62 = p7))) ((i40 + 1)) w61 /\ mu38 ((decide (n62 = p7))) ((i40 + 1)) w61 < mu38 taken39 i40 w41))) (
  BIf (!taken39) (
  inR .i64 (p7 - 1) /\
  (I4 (p7) ((p7 - 1)) w41 /\ mu5 (p7) ((p7 - 1)) w41 < mu5 at6 p7 w8)) (
  inR .i64 (p7 - 1) /\
  (I4 (at6) ((p7 - 1)) w41 /\ mu5 (at6) ((p7 - 1)) w41 < mu5 at6 p7 w8))))) (
  BIf (decide (at6 < 0)) (
  K (.bool false) w8) (
  ∃ J63 : (Int) -> World -> Prop,
  (
  needSome s1 fun a64 =>
  ∃ s65, w8.cell? (a64.add 1) = some (Slc.v s65) /\
  BIf (decide ((0 : Int) < (s65.l : Int))) (
  needSome s1 fun a66 =>
  ∃ s67, w8.cell? (a66.add 1) = some (Slc.v s67) /\
  inR .i64 ((s65.l : Int) - (1 : Int)) /\
  needSome s67.p fun a68 =>
  0 <= ((s65.l : Int) - (1 : Int)) /\ ((s65.l : Int) - (1 : Int)) < (s67.l : Int) /\
  ∃ n69, w8.cell? ((Addr.add a68 ((Int.toNat ((s65.l : Int) - (1 : Int))) * 4)).add 1) = some (.int .i64 n69) /\
  inR .i64 (n69 + 1) /\
  J63 ((n69 + 1)) w8) (
  J63 ((0 : Int)) w8)) /\ (
  ∀ number70 : Int, ∀ w71 : World, J63 number70 w71 -> ∀ _ _ _ _ _ _ _ _ _ _ _ _ _ _ _ _ _ _ : Value,
  needSome s1 fun a90 =>
  ∃ s91, w71.cell? (a90.add 1) = some (Slc.v s91) /\
  aA w71 (.cells ⟨[(.int .i64 at6), (.int .i64 number70), (.int .i64 0), (Slc.v ⟨none, 0, 0⟩)]⟩ 169) fun r92 w93 =>
  ak 4 169 [(.int .i64 0), (.int .i64 0), (.int .i64 0), (Slc.v ⟨none, 0, 0⟩)] w93 s91 (.slc (⟨(some ⟨r92, 0, none⟩), 1, 1⟩ : Slc)) fun s94 w95 =>
  needSome s1 fun a96 =>
  aw w95 (a96.add 1) 1 /\ ∀ w97, w97 = w95.setCell (a96.add 1) (Slc.v s94) ->
  K (.bool true) w97))))
theorem kq (s1 : Option Addr) {w : World} {R : Ending -> World -> Prop} (h : gT s1 w fun v w' => R (.returned v) w') : Calls Tryz.prog dx ⟨[(.pointer s1)]⟩ w R :=
  ab (ann := (.two .none (.two .none (.two (.two .none (.one (.loop [(3, (Sh.int .i64)), (4, (Sh.int .i64))] ([5, 7] ++ List.range' 15 24) (.two .none (.two (.one (.two .none (.two (.two .none (.one (.loop [(5, Sh.bool), (24, (Sh.int .i64))] ([7] ++ List.range' 25 11) .none))) .none))) .none))))) (.two .none (.two .none (.cut [(8, (Sh.int .i64))] ([9] ++ List.range' 41 17) .none .none))))))) ag mixed Tryz.func100 (Eq.mp (by kernel_rfl) h)
def gU (s1 : Option Addr) (b2 : Slc) (w : World) (K : Value -> World -> Prop) : Prop :=
  needSome s1 fun a3 =>
  ∃ s4, w.cell? (a3.add 1) = some (Slc.v s4) /\
  BIf (decide ((0 : Int) < (s4.l : Int))) (
  needSome s1 fun a5 =>
  ∃ s6, w.drew.cell? (a5.add 1) = some (Slc.v s6) /\
  inR .i64 ((s4.l : Int) - (1 : Int)) /\
  needSome s6.p fun a7 =>
  0 <= ((s4.l : Int) - (1 : Int)) /\ ((s4.l : Int) - (1 : Int)) < (s6.l : Int) /\
  ∃ n8, w.drew.cell? ((Addr.add a7 ((Int.toNat ((s4.l : Int) - (1 : Int))) * 4)).add 2) = some (.int .i64 n8) /\
  Calls Tryz.prog dI ⟨[b2.v]⟩ w.drew fun e9 w10 =>
  ∃ n11, e9 = .returned (.int .i64 n11) /\
  (∃ n12, w10.cell? ((Addr.add a7 ((Int.toNat ((s4.l : Int) - (1 : Int))) * 4)).add 2) = some (.int .i64 n12) /\
  (Value.int .i64 n12) = (Value.int .i64 n8)) /\
  (ckSx (w10.cell? (a5.add 1)) s6) /\
  inR .i64 (n8 + n11) /\
  K (.bool (decide ((n8 + n11) <= (63 : Int)))) w10) (
  K (.bool false) w.drew)
theorem kr (s1 : Option Addr) (b2 : Slc) {w : World} {R : Ending -> World -> Prop} (h : gU s1 b2 w fun v w' => R (.returned v) w') : Calls Tryz.prog du ⟨[(.pointer s1), b2.v]⟩ w R :=
  ab (ann := .none) ag mixed Tryz.func99 (Eq.mp (by kernel_rfl) h)
def gi (s1 : Option Addr) (b2 : Slc) (w : World) (K : Value -> World -> Prop) : Prop :=
  ∃ J3 : World -> Prop,
  (
  BIf (decide ((b2.l : Int) < (1 : Int))) (
  K (.tuple ⟨[(.int .i64 0), (.int .i64 4)]⟩) w) (
  BIf (decide ((3968 : Int) < (b2.l : Int))) (
  K (.tuple ⟨[(.int .i64 0), (.int .i64 4)]⟩) w) (
  J3 w))) /\ (
  ∀ w4 : World, J3 w4 -> ∀ _ _ _ _ _ _ _ _ _ _ : Value,
  ∃ J15 : World -> Prop,
  (
  Calls Tryz.prog du ⟨[(.pointer s1), b2.v]⟩ w4 fun e16 w17 =>
  ∃ b18, e16 = .returned (.bool b18) /\
  BIf (!b18) (
  Calls Tryz.prog dx ⟨[(.pointer s1)]⟩ w17 fun e19 w20 =>
  ∃ b21, e19 = .returned (.bool b21) /\
  BIf (!b21) (
  K (.tuple ⟨[(.int .i64 0), (.int .i64 13)]⟩) w20) (
  J15 w20)) (
  J15 w17)) /\ (
  ∀ w22 : World, J15 w22 -> ∀ _ _ _ _ _ _ _ _ _ _ _ : Value,
  needSome s1 fun a34 =>
  ∃ s35, w22.drew.cell? (a34.add 1) = some (Slc.v s35) /\
  needSome s1 fun a36 =>
  ∃ s37, w22.drew.cell? (a36.add 1) = some (Slc.v s37) /\
  inR .i64 ((s37.l : Int) - (1 : Int)) /\
  needSome s35.p fun a38 =>
  0 <= ((s37.l : Int) - (1 : Int)) /\ ((s37.l : Int) - (1 : Int)) < (s35.l : Int) /\
  ∃ n39, World.cell? (w22.drew.drew) ((Addr.add a38 ((Int.toNat ((s37.l : Int) - (1 : Int))) * 4)).add 2) = some (.int .i64 n39) /\
  Calls Tryz.prog dI ⟨[b2.v]⟩ (w22.drew.drew) fun e40 w41 =>
  ∃ n42, e40 = .returned (.int .i64 n42) /\
  (∃ n43, w41.cell? ((Addr.add a38 ((Int.toNat ((s37.l : Int) - (1 : Int))) * 4)).add 2) = some (.int .i64 n43) /\
  (Value.int .i64 n43) = (Value.int .i64 n39)) /\
  inR .i64 (n39 + n42) /\
  aw w41 ((Addr.add a38 ((Int.toNat ((s37.l : Int) - (1 : Int))) * 4)).add 2) 1 /\ ∀ w44, w44 = w41.setCell ((Addr.add a38 ((Int.toNat ((s37.l : Int) - (1 : Int))) * 4)).add 2) (.int .i64 (n39 + n42)) ->
  ∃ s45, w44.drew.cell? ((Addr.add a38 ((Int.toNat ((s37.l : Int) - (1 : Int))) * 4)).add 3) = some (Slc.v s45) /\
  aA w44.drew (.cells ⟨[]⟩ 5) fun r46 w47 =>
  (∃ s48, w47.cell? ((Addr.add a38 ((Int.toNat ((s37.l : Int) - (1 : Int))) * 4)).add 3) = some (Slc.v s48) /\
  s48.v = s45.v) /\
  ak 1 5 [(.int .u8 0)] w47 (⟨(some ⟨r46, 0, none⟩), 0, 0⟩ : Slc) (.slc b2) fun s49 w50 =>
  (∃ s51, w50.cell? ((Addr.add a38 ((Int.toNat ((s37.l : Int) - (1 : Int))) * 4)).add 3) = some (Slc.v s51) /\
  s51.v = s45.v) /\
  aA w50 (.cells ⟨[(Slc.v s49)]⟩ 45) fun r52 w53 =>
  (∃ s54, w53.cell? ((Addr.add a38 ((Int.toNat ((s37.l : Int) - (1 : Int))) * 4)).add 3) = some (Slc.v s54) /\
  s54.v = s45.v) /\
  ak 1 45 [(Slc.v ⟨none, 0, 0⟩)] w53 s45 (.slc (⟨(some ⟨r52, 0, none⟩), 1, 1⟩ : Slc)) fun s55 w56 =>
  aw w56 ((Addr.add a38 ((Int.toNat ((s37.l : Int) - (1 : Int))) * 4)).add 3) 1 /\ ∀ w57, w57 = w56.setCell ((Addr.add a38 ((Int.toNat ((s37.l : Int) - (1 : Int))) * 4)).add 3) (Slc.v s55) ->
  ∃ n58, w57.cell? ((Addr.add a38 ((Int.toNat ((s37.l : Int) - (1 : Int))) * 4)).add 1) = some (.int .i64 n58) /\
  K (.tuple ⟨[(.int .i64 n58), (.int .i64 0)]⟩) w57))
theorem jL (s1 : Option Addr) (b2 : Slc) {w : World} {R : Ending -> World -> Prop} (h : gi s1 b2 w fun v w' => R (.returned v) w') : Calls Tryz.prog aV ⟨[(.pointer s1), b2.v]⟩ w R :=
  ab (ann := (.two .none (.cut [] ([4, 5] ++ List.range' 7 8) .none (.cut [] ([4, 5] ++ List.range' 15 9) .none .none)))) ag mixed Tryz.func74 (Eq.mp (by kernel_rfl) h)
def gV (s1 : Option Addr) (number2 : Int) (w : World) (K : Value -> World -> Prop) : Prop :=
  needSome s1 fun a3 =>
  ∃ s4, w.cell? (a3.add 1) = some (Slc.v s4) /\
  ∃ (I5 : (Int) -> World -> Prop) (mu6 : (Int) -> World -> Nat), I5 ((0 : Int)) w /\ (
  ∀ i7 : Int, ∀ w8 : World, I5 i7 w8 -> ∀ _ _ _ _ _ _ _ _ _ _ _ _ _ _ _ _ _ _ _ _ _ _ _ _ _ _ _ _ _ _ _ _ _ _ _ _ _ _ _ : Value,
  BIf (decide (i7 < (s4.l : Int))) (
  needSome s4.p fun a48 =>
  0 <= i7 /\ i7 < (s4.l : Int) /\
  ∃ n49 : Int, ∃ n50 : Int, ∃ n51 : Int, ∃ s52 : Slc, rowAt w8 (Addr.add a48 ((Int.toNat i7) * 4)) 0 [(.int .i64 n49), (.int .i64 n50), (.int .i64 n51), s52.v] /\
  aA w8 (.cells ⟨[(.int .i64 0), (.int .i64 0), (.int .i64 0), (Slc.v ⟨none, 0, 0⟩)]⟩ 169) fun r53 w54 =>
  aw w54 ⟨r53, 0, none⟩ 4 /\ ∀ w55, w55 = setCells w54 ⟨r53, 0, none⟩ 0 [(.int .i64 n49), (.int .i64 n50), (.int .i64 n51), s52.v] ->
  ∃ n56, w55.cell? ⟨r53, 1, none⟩ = some (.int .i64 n56) /\
  BIf (!decide (n56 = number2)) (
  inR .i64 (i7 + 1) /\
  (I5 ((i7 + 1)) w55 /\ mu6 ((i7 + 1)) w55 < mu6 i7 w8)) (
  needSome s1 fun a57 =>
  ∃ s58, w55.cell? (a57.add 1) = some (Slc.v s58) /\
  inR .i64 ((s58.l : Int) - (1 : Int)) /\
  BIf (decide (i7 = ((s58.l : Int) - (1 : Int)))) (
  K (.int .i64 17) w55) (
  needSome s1 fun a59 =>
  ∃ s60, w55.drew.cell? (a59.add 1) = some (Slc.v s60) /\
  0 <= (0 : Int) /\ (0 : Int) <= i7 /\ i7 <= (s60.c : Int) /\ (s60.c : Int) <= (s60.c : Int) /\
  needSome s1 fun a62 =>
  ∃ s63, w55.drew.cell? (a62.add 1) = some (Slc.v s63) /\
  inR .i64 (i7 + 1) /\
  0 <= (i7 + 1) /\ (i7 + 1) <= (s63.l : Int) /\ (s63.l : Int) <= (s63.c : Int) /\ (s63.c : Int) <= (s63.c : Int) /\
  aA w55.drew (.cells ⟨[]⟩ 169) fun r65 w66 =>
  (ckSx (w66.cell? (a62.add 1)) s63) /\
  (ckSx (w66.cell? (a59.add 1)) s60) /\
  ak 4 169 [(.int .i64 0), (.int .i64 0), (.int .i64 0), (Slc.v ⟨none, 0, 0⟩)] w66 (⟨(some ⟨r65, 0, none⟩), 0, 0⟩ : Slc) (.slc (Slc.sub s60 4 0 (Int.toNat i7) s60.c)) fun s69 w70 =>
  (ckSx (w70.cell? (a62.add 1)) s63) /\
  ak 4 169 [(.int .i64 0), (.int .i64 0), (.int .i64 0), (Slc.v ⟨none, 0, 0⟩)] w70 s69 (.slc (Slc.sub s63 4 (Int.toNat (i7 + 1)) s63.l s63.c)) fun s72 w73 =>
  needSome s1 fun a74 =>
  aw w73 (a74.add 1) 1 /\ ∀ w75, w75 = w73.setCell (a74.add 1) (Slc.v s72) ->
  K (.int .i64 0) w75))) (
  K (.int .i64 16) w8))
theorem ku (s1 : Option Addr) (number2 : Int) {w : World} {R : Ending -> World -> Prop} (h : gV s1 number2 w fun v w' => R (.returned v) w') : Calls Tryz.prog dt ⟨[(.pointer s1), (.int .i64 number2)]⟩ w R :=
  ab (ann := (.two .none (.two (.two .none (.one (.loop [(12, (Sh.int .i64))] ([4, 5, 6] ++ List.range' 13 36) .none))) .none))) ag mixed Tryz.func97 (Eq.mp (by kernel_rfl) h)
end Go.D

