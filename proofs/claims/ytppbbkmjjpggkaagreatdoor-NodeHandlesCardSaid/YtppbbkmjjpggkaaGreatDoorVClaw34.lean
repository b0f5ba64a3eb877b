/-
  WHAT IS PROVED: verification conditions of functions of this program, each with its soundness. No further conditions.
-/
import Derived.Test.YtppbbkmjjpggkaaGreatDoorBase
set_option linter.unusedSimpArgs false
set_option maxRecDepth 100000
set_option linter.unusedVariables false
namespace Go.D
open Go Go.Proofs
def jE  (w : World) (K : Value -> World -> Prop) : Prop :=
  Calls Tryz.prog lu ⟨[(.int .i64 (192 : Int))]⟩ w fun e1 w2 =>
  ∃ p3 : Option Addr, ∃ e4, e1 = .returned (.tuple ⟨[(.pointer p3), e4]⟩) /\
  isI e4 /\
  BIf (!isNilI e4) (
  K (.tuple ⟨[(.pointer none), (.pointer none)]⟩) w2) (
  Calls Tryz.prog j7 ⟨[(.pointer p3)]⟩ w2 fun e5 w6 =>
  ∃ p7 : Option Addr, ∃ e8, e5 = .returned (.tuple ⟨[(.pointer p7), e8]⟩) /\
  isI e8 /\
  BIf (!isNilI e8) (
  K (.tuple ⟨[(.pointer none), (.pointer none)]⟩) w6) (
  BIf (Option.isNone (p7 : Option Addr)) (
  K (.tuple ⟨[(.pointer none), (.pointer none)]⟩) w6) (
  Calls Tryz.prog uj ⟨[(.pointer p7)]⟩ w6 fun e9 w10 =>
  ∃ p11, e9 = .returned (.pointer p11) /\
  Calls Tryz.prog fG ⟨[(.int .i64 (3 : Int))]⟩ w10 fun e12 w13 =>
  ∃ p14, e12 = .returned (.pointer p14) /\
  aC w13 (.cells ⟨[(.pointer p14), (Slc.v ⟨none, 0, 0⟩), (Slc.v ⟨none, 0, 0⟩)]⟩ 45) fun r15 w16 =>
  K (.tuple ⟨[(.pointer p11), (.pointer (some ⟨r15, 0, none⟩))]⟩) w16)))
theorem mG  {w : World} {R : Ending -> World -> Prop} (h : jE  w fun v w' => R (.returned v) w') : Calls Tryz.prog cX ⟨[]⟩ w R :=
  ab (ann := .none) ah mixed Tryz.func7 (Eq.mp (by kernel_rfl) h)
def jF  (w : World) (K : Value -> World -> Prop) : Prop :=
  Calls Tryz.prog cX ⟨[]⟩ w fun e1 w2 =>
  ∃ p3 : Option Addr, ∃ p4, e1 = .returned (.tuple ⟨[(.pointer p3), (.pointer p4)]⟩) /\
  Calls Tryz.prog ji ⟨[(.int .i64 (0 : Int))]⟩ w2 fun e5 w6 =>
  ∃ p7 : Option Addr, ∃ e8, e5 = .returned (.tuple ⟨[(.pointer p7), e8]⟩) /\
  ∃ J9 : World -> Prop,
  (
  BIf (Option.isNone (p3 : Option Addr)) (
  K (.bool false) w6) (
  isI e8 /\
  BIf (!isNilI e8) (
  K (.bool false) w6) (
  BIf (Option.isNone (p7 : Option Addr)) (
  K (.bool false) w6) (
  J9 w6)))) /\ (
  ∀ w10 : World, J9 w10 -> ∀ _ _ _ _ _ _ _ _ _ _ _ : Value,
  aC w10 (.cells ⟨[(.int .u8 (120 : Int))]⟩ 5) fun r22 w23 =>
  ∀ w25, w25 = markW w23 r22 ->
  Calls Tryz.prog ix ⟨[(.pointer p7), (.int .i64 (1 : Int)), (.int .i64 (0 : Int)), (.int .i64 (3 : Int)), (Slc.v (⟨(some ⟨r22, 0, none⟩), 1, 1⟩ : Slc))]⟩ w25 fun e26 w27 =>
  ∃ s28 : Slc, ∃ e29, e26 = .returned (.tuple ⟨[(Slc.v s28), e29]⟩) /\
  isI e29 /\
  BIf (!isNilI e29) (
  K (.bool false) w27) (
  Calls Tryz.prog dh ⟨[(.pointer p3), (.int .i64 (1 : Int)), (Slc.v s28)]⟩ w27 fun e30 w31 =>
  ∃ s32 : Slc, ∃ b33, e30 = .returned (.tuple ⟨[(Slc.v s32), (.bool b33)]⟩) /\
  Calls Tryz.prog dh ⟨[(.pointer p3), (.int .i64 (1 : Int)), (Slc.v s28)]⟩ w31 fun e34 w35 =>
  ∃ s36 : Slc, ∃ b37, e34 = .returned (.tuple ⟨[(Slc.v s36), (.bool b37)]⟩) /\
  BIf b33 (
  BIf b37 (
  ∃ t38 : List UInt8, ag w35 s32 t38 /\
  ∃ t39 : List UInt8, ag w35 s36 t39 /\
  BIf (decide (t38 = t39)) (
  Calls Tryz.prog gQ ⟨[(.pointer p7), (Slc.v s32)]⟩ w35 fun e40 w41 =>
  ∃ b42, e40 = .returned (.bool b42) /\
  BIf b42 (
  Calls Tryz.prog dH ⟨[(.pointer p7)]⟩ w41 fun e43 w44 =>
  ∃ b45, e43 = .returned (.bool b45) /\
  BIf (!b45) (
  Calls Tryz.prog fi ⟨[(.pointer p3)]⟩ w44 fun e46 w47 =>
  ∃ n48, e46 = .returned (.int .i64 n48) /\
  K (.bool (decide (n48 = (1 : Int)))) w47) (
  K (.bool false) w44)) (
  K (.bool false) w41)) (
  K (.bool false) w35)) (
  K (.bool false) w35)) (
  K (.bool false) w35)))
theorem mH  {w : World} {R : Ending -> World -> Prop} (h : jF  w fun v w' => R (.returned v) w') : Calls Tryz.prog eQ ⟨[]⟩ w R :=
  ab (ann := (.two .none (.two .none (.two .none (.cut [] ([0] ++ List.range' 18 10) .none .none))))) ah mixed Tryz.func6 (Eq.mp (by kernel_rfl) h)
def gM (a1 : Int) (a2 : Int) (a3 : Int) (a4 : Int) (a5 : Int) (a6 : Slc) (a7 : Bool) (a8 : Slc) (w : World) (K : Value -> World -> Prop) : Prop :=
  aC w (.cells ⟨[(.int .i64 a1), (.int .i64 a2), (.int .i64 a3), (.int .i64 a4), (.int .i64 a5), (Slc.v a6), (.bool a7), (Slc.v a8)]⟩ 32) fun r9 w10 =>
  ∃ b11, w10.cell? ⟨r9, 6, none⟩ = some (.bool b11) /\
  BIf b11 (
  ∃ s12, w10.cell? ⟨r9, 7, none⟩ = some (Slc.v s12) /\
  K (.tuple ⟨[(Slc.v s12), (.bool true)]⟩) w10) (
  ∃ n13 : Int, ∃ n14 : Int, ∃ n15 : Int, ∃ n16 : Int, ∃ s17 : Slc, rowAt w10 ⟨r9, 1, none⟩ 0 [(.int .i64 n13), (.int .i64 n14), (.int .i64 n15), (.int .i64 n16), (Slc.v s17)] /\
  aC w10 (.cells ⟨[(.int .i64 (0 : Int)), (.int .i64 (0 : Int)), (.int .i64 (0 : Int)), (.int .i64 (0 : Int)), (Slc.v ⟨none, 0, 0⟩)]⟩ 57) fun r18 w19 =>
  ar w19 ⟨r18, 0, none⟩ 5 /\ ∀ w20, w20 = setCells w19 ⟨r18, 0, none⟩ 0 [(.int .i64 n13), (.int .i64 n14), (.int .i64 n15), (.int .i64 n16), (Slc.v s17)] ->
  ∃ n21 : Int, ∃ n22 : Int, ∃ n23 : Int, ∃ n24 : Int, ∃ s25 : Slc, rowAt w20 ⟨r18, 0, none⟩ 0 [(.int .i64 n21), (.int .i64 n22), (.int .i64 n23), (.int .i64 n24), (Slc.v s25)] /\
  Calls Tryz.prog bX ⟨[(.agg ⟨[(.int .i64 n21), (.int .i64 n22), (.int .i64 n23), (.int .i64 n24), (Slc.v s25)]⟩)]⟩ w20 fun e26 w27 =>
  ∃ b28, e26 = .returned (.bool b28) /\
  BIf (!b28) (
  K (.tuple ⟨[(Slc.v ⟨none, 0, 0⟩), (.bool false)]⟩) w27) (
  ∃ n29 : Int, ∃ n30 : Int, ∃ n31 : Int, ∃ n32 : Int, ∃ s33 : Slc, rowAt w27 ⟨r18, 0, none⟩ 0 [(.int .i64 n29), (.int .i64 n30), (.int .i64 n31), (.int .i64 n32), (Slc.v s33)] /\
  Calls Tryz.prog fF ⟨[(.agg ⟨[(.int .i64 n29), (.int .i64 n30), (.int .i64 n31), (.int .i64 n32), (Slc.v s33)]⟩)]⟩ w27 fun e34 w35 =>
  ∃ s36, e34 = .returned (Slc.v s36) /\
  K (.tuple ⟨[(Slc.v s36), (.bool true)]⟩) w35))
theorem kl (a1 : Int) (a2 : Int) (a3 : Int) (a4 : Int) (a5 : Int) (a6 : Slc) (a7 : Bool) (a8 : Slc) {w : World} {R : Ending -> World -> Prop} (h : gM a1 a2 a3 a4 a5 a6 a7 a8 w fun v w' => R (.returned v) w') : Calls Tryz.prog dq ⟨[(.agg ⟨[(.int .i64 a1), (.int .i64 a2), (.int .i64 a3), (.int .i64 a4), (.int .i64 a5), (Slc.v a6), (.bool a7), (Slc.v a8)]⟩)]⟩ w R :=
  ab (ann := .none) ah mixed Tryz.func8 (Eq.mp (by kernel_rfl) h)
def fY (list1 : Slc) (w : World) (K : Value -> World -> Prop) : Prop :=
  Calls Tryz.prog eQ ⟨[]⟩ w fun e2 w3 =>
  ∃ b4, e2 = .returned (.bool b4) /\
  BIf (!b4) (
  K (.bool false) w3) (
  BIf (decide ((80 : Int) < (list1.l : Int))) (
  K (.bool true) w3) (
  Calls Tryz.prog cX ⟨[]⟩ w3 fun e5 w6 =>
  ∃ p7 : Option Addr, ∃ p8, e5 = .returned (.tuple ⟨[(.pointer p7), (.pointer p8)]⟩) /\
  BIf (Option.isNone (p7 : Option Addr)) (
  K (.bool false) w6) (
  ∃ (I9 : (Int) -> World -> Prop) (mu10 : (Int) -> World -> Nat), I9 ((0 : Int)) w6 /\ (
  ∀ i11 : Int, ∀ w12 : World, I9 i11 w12 -> ∀ _ _ _ _ _ _ _ _ _ _ _ _ _ _ _ _ _ _ _ _ _ _ _ _ _ _ _ _ _ _ _ _ _ _ _ _ _ _ _ _ _ _ _ _ _ _ _ _ _ _ _ _ _ _ _ _ _ _ _ _ _ _ _ _ _ _ _ _ _ _ _ _ _ : Value,
  BIf (decide (i11 < (list1.l : Int))) (
  needSome list1.p fun a86 =>
  0 <= i11 /\ i11 < (list1.l : Int) /\
  ∃ n87 : Int, ∃ n88 : Int, ∃ n89 : Int, ∃ n90 : Int, ∃ n91 : Int, ∃ s92 : Slc, ∃ b93 : Bool, ∃ s94 : Slc, rowAt w12 (Addr.add a86 ((Int.toNat i11) * 8)) 0 [(.int .i64 n87), (.int .i64 n88), (.int .i64 n89), (.int .i64 n90), (.int .i64 n91), (Slc.v s92), (.bool b93), (Slc.v s94)] /\
  aC w12 (.cells ⟨[(.int .i64 (0 : Int)), (.int .i64 (0 : Int)), (.int .i64 (0 : Int)), (.int .i64 (0 : Int)), (.int .i64 (0 : Int)), (Slc.v ⟨none, 0, 0⟩), (.bool false), (Slc.v ⟨none, 0, 0⟩)]⟩ 32) fun r95 w96 =>
  ar w96 ⟨r95, 0, none⟩ 8 /\ ∀ w97, w97 = setCells w96 ⟨r95, 0, none⟩ 0 [(.int .i64 n87), (.int .i64 n88), (.int .i64 n89), (.int .i64 n90), (.int .i64 n91), (Slc.v s92), (.bool b93), (Slc.v s94)] ->
  ∃ J98 : World -> Prop,
  (
  ∃ s99, w97.cell? ⟨r95, 7, none⟩ = some (Slc.v s99) /\
  BIf (decide ((3000 : Int) < (s99.l : Int))) (
  K (.bool true) w97) (
  ∃ s100, w97.cell? ⟨r95, 5, none⟩ = some (Slc.v s100) /\
  BIf (decide ((3000 : Int) < (s100.l : Int))) (
  K (.bool true) w97) (
  J98 w97))) /\ (
  ∀ w101 : World, J98 w101 -> ∀ _ _ _ _ _ _ _ _ _ _ _ _ : Value,
  ∃ n114 : Int, ∃ n115 : Int, ∃ n116 : Int, ∃ n117 : Int, ∃ n118 : Int, ∃ s119 : Slc, ∃ b120 : Bool, ∃ s121 : Slc, rowAt w101 ⟨r95, 0, none⟩ 0 [(.int .i64 n114), (.int .i64 n115), (.int .i64 n116), (.int .i64 n117), (.int .i64 n118), (Slc.v s119), (.bool b120), (Slc.v s121)] /\
  Calls Tryz.prog dq ⟨[(.agg ⟨[(.int .i64 n114), (.int .i64 n115), (.int .i64 n116), (.int .i64 n117), (.int .i64 n118), (Slc.v s119), (.bool b120), (Slc.v s121)]⟩)]⟩ w101 fun e122 w123 =>
  ∃ s124 : Slc, ∃ b125, e122 = .returned (.tuple ⟨[(Slc.v s124), (.bool b125)]⟩) /\
  BIf (!b125) (
  inR .i64 (i11 + (1 : Int)) /\
  (I9 ((i11 + (1 : Int))) w123 /\ mu10 ((i11 + (1 : Int))) w123 < mu10 i11 w12)) (
  ∃ n126, w123.cell? ⟨r95, 0, none⟩ = some (.int .i64 n126) /\
  Calls Tryz.prog dh ⟨[(.pointer p7), (.int .i64 n126), (Slc.v s124)]⟩ w123 fun e127 w128 =>
  ∃ s129 : Slc, ∃ b130, e127 = .returned (.tuple ⟨[(Slc.v s129), (.bool b130)]⟩) /\
  ∃ n131, w128.cell? ⟨r95, 0, none⟩ = some (.int .i64 n131) /\
  Calls Tryz.prog cS ⟨[(.pointer p8), (.int .i64 n131), (Slc.v s124)]⟩ w128 fun e132 w133 =>
  ∃ x134 : Int, ∃ x135 : Int, ∃ x136 : Int, ∃ x137 : Slc, ∃ b138, e132 = .returned (.tuple ⟨[(.agg ⟨[(.int .i64 x134), (.int .i64 x135), (.int .i64 x136), (Slc.v x137)]⟩), (.bool b138)]⟩) /\
  aC w133 (.cells ⟨[(.int .i64 (0 : Int)), (.int .i64 (0 : Int)), (.int .i64 (0 : Int)), (Slc.v ⟨none, 0, 0⟩)]⟩ 37) fun r139 w140 =>
  ar w140 ⟨r139, 0, none⟩ 4 /\ ∀ w141, w141 = setCells w140 ⟨r139, 0, none⟩ 0 [(.int .i64 x134), (.int .i64 x135), (.int .i64 x136), (Slc.v x137)] ->
  BIf (!(b130 == b138)) (
  K (.bool false) w141.drew) (
  Calls Tryz.prog iw ⟨[(.pointer p7)]⟩ w141.drew fun e142 w143 =>
  ∃ b144, e142 = .returned (.bool b144) /\
  BIf b144 (
  K (.bool false) w143) (
  needSome p8 fun a145 =>
  ∃ s146, w143.cell? (a145.add 2) = some (Slc.v s146) /\
  Calls Tryz.prog fi ⟨[(.pointer p7)]⟩ w143 fun e147 w148 =>
  ∃ n149, e147 = .returned (.int .i64 n149) /\
  (∃ s150, w148.cell? (a145.add 2) = some (Slc.v s150) /\
  (Slc.v s150) = (Slc.v s146)) /\
  BIf (!decide (n149 = (if (s146.l : Int) < (32 : Int) then (s146.l : Int) else (32 : Int)))) (
  K (.bool false) w148) (
  BIf b130 (
  ∃ t151 : List UInt8, ag w148.drew s129 t151 /\
  ∃ n152 : Int, ∃ n153 : Int, ∃ n154 : Int, ∃ s155 : Slc, rowAt w148.drew ⟨r139, 0, none⟩ 0 [(.int .i64 n152), (.int .i64 n153), (.int .i64 n154), (Slc.v s155)] /\
  Calls Tryz.prog fj ⟨[(.agg ⟨[(.int .i64 n152), (.int .i64 n153), (.int .i64 n154), (Slc.v s155)]⟩)]⟩ w148.drew fun e156 w157 =>
  ∃ s158, e156 = .returned (Slc.v s158) /\
  (∃ t159 : List UInt8, ag w157 s129 t159 /\
  (ew t159) = (ew t151)) /\
  ∃ t160 : List UInt8, ag w157 s158 t160 /\
  BIf (!decide (t151 = t160)) (
  K (.bool false) w157) (
  inR .i64 (i11 + (1 : Int)) /\
  (I9 ((i11 + (1 : Int))) w157 /\ mu10 ((i11 + (1 : Int))) w157 < mu10 i11 w12))) (
  inR .i64 (i11 + (1 : Int)) /\
  (I9 ((i11 + (1 : Int))) w148.drew /\ mu10 ((i11 + (1 : Int))) w148.drew < mu10 i11 w12)))))))) (
  K (.bool true) w12)))))
theorem jG (list1 : Slc) {w : World} {R : Ending -> World -> Prop} (h : fY list1 w fun v w' => R (.returned v) w') : Calls Tryz.prog cR ⟨[(Slc.v list1)]⟩ w R :=
  ab (ann := (.two .none (.two .none (.two .none (.two .none (.two .none (.two (.two .none (.one (.loop [(26, (Sh.int .i64))] ([2, 6, 7, 8, 9, 10, 11, 12] ++ List.range' 27 65) (.two .none (.two .none (.two (.one (.two .none (.cut [] ([2] ++ List.range' 30 11) .none .none))) .none)))))) .none))))))) ah mixed Tryz.func3 (Eq.mp (by kernel_rfl) h)
end Go.D

