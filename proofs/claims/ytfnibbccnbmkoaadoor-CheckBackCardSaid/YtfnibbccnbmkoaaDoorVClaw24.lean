/-
  WHAT IS PROVED: verification conditions of functions of this program, each with its soundness. No further conditions.
-/
import Derived.Test.YtfnibbccnbmkoaaDoorBase
set_option linter.unusedSimpArgs false
set_option maxRecDepth 100000
set_option linter.unusedVariables false
namespace Go.D
open Go Go.Proofs
def cC  (w : World) (K : Value -> World -> Prop) : Prop :=
  0 <= (252 : Int) /\ (252 : Int) <= (252 : Int) /\ (252 : Int) <= 2 ^ 30 /\
  aH w (.cells ⟨aN 252 [(.int .u8 0)]⟩ 5) fun r1 w2 =>
  Calls Tryd.prog bH ⟨[(.int .i64 1), (.int .i64 0), (Slc.v (⟨(some ⟨r1, 0, none⟩), 252, 252⟩ : Slc))]⟩ w2 fun e3 w4 =>
  ∃ s5 : Slc, ∃ e6, e3 = .returned (.tuple ⟨[s5.v, e6]⟩) /\
  0 <= (253 : Int) /\ (253 : Int) <= (253 : Int) /\ (253 : Int) <= 2 ^ 30 /\
  aH w4 (.cells ⟨aN 253 [(.int .u8 0)]⟩ 5) fun r7 w8 =>
  Calls Tryd.prog bH ⟨[(.int .i64 1), (.int .i64 0), (Slc.v (⟨(some ⟨r7, 0, none⟩), 253, 253⟩ : Slc))]⟩ w8 fun e9 w10 =>
  ∃ s11 : Slc, ∃ e12, e9 = .returned (.tuple ⟨[s11.v, e12]⟩) /\
  isI e6 /\
  BIf (isNilI e6) (
  isI e12 /\
  BIf (isNilI e12) (
  BIf (decide ((s5.l : Int) = (1 : Int))) (
  BIf (decide ((s11.l : Int) = (2 : Int))) (
  needSome s11.p fun a13 =>
  0 <= (1 : Int) /\ (1 : Int) < (s11.l : Int) /\
  ∃ s14, w10.cell? ((a13.add 12).add 11) = some (Slc.v s14) /\
  K (.bool (decide ((s14.l : Int) = (1 : Int)))) w10) (
  K (.bool false) w10)) (
  K (.bool false) w10)) (
  K (.bool false) w10)) (
  K (.bool false) w10)
theorem dx  {w : World} {R : Ending -> World -> Prop} (h : cC  w fun v w' => R (.returned v) w') : Calls Tryd.prog bg ⟨[]⟩ w R :=
  ah (ann := .none) aw mixed Tryd.func5 (Eq.mp (by kernel_rfl) h)
def bT (data1 : Slc) (order2 : Slc) (others3 : Slc) (w : World) (K : Value -> World -> Prop) : Prop :=
  Calls Tryd.prog bg ⟨[]⟩ w fun e4 w5 =>
  ∃ b6, e4 = .returned (.bool b6) /\
  BIf (!b6) (
  K (.bool false) w5) (
  ∃ J7 : World -> Prop,
  (
  BIf (decide ((3000 : Int) < (data1.l : Int))) (
  K (.bool true) w5) (
  BIf (decide ((60 : Int) < (order2.l : Int))) (
  K (.bool true) w5) (
  BIf (decide ((20 : Int) < (others3.l : Int))) (
  K (.bool true) w5) (
  J7 w5)))) /\ (
  ∀ w8 : World, J7 w8 -> ∀ _ _ _ _ _ _ _ _ _ _ _ _ _ _ : Value,
  Calls Tryd.prog bH ⟨[(.int .i64 3), (.int .i64 9), data1.v]⟩ w8 fun e23 w24 =>
  ∃ s25 : Slc, ∃ e26, e23 = .returned (.tuple ⟨[s25.v, e26]⟩) /\
  isI e26 /\
  BIf (!isNilI e26) (
  K (.bool false) w24) (
  aH w24 (.cells ⟨[]⟩ 54) fun r27 w28 =>
  ∃ (I29 : (Slc) -> (Int) -> World -> Prop) (mu30 : (Slc) -> (Int) -> World -> Nat), I29 ((⟨(some ⟨r27, 0, none⟩), 0, 0⟩ : Slc)) ((0 : Int)) w28 /\ (
  ∀ all31 : Slc, ∀ i32 : Int, ∀ w33 : World, I29 all31 i32 w33 -> ∀ _ _ _ _ _ _ _ _ _ _ _ _ _ _ _ _ _ _ _ _ _ _ : Value,
  BIf (decide (i32 < (order2.l : Int))) (
  needSome order2.p fun a56 =>
  0 <= i32 /\ i32 < (order2.l : Int) /\
  ∃ n57, w33.cell? (Addr.add a56 ((Int.toNat i32) * 1)) = some (.int .i64 n57) /\
  inR .i64 ((all31.l : Int) + (9 : Int)) /\
  0 <= (IntKind.wrap .u64 n57) /\ 0 < (IntKind.wrap .u64 (s25.l : Int)) /\
  needSome s25.p fun a58 =>
  0 <= (IntKind.wrap .i64 ((IntKind.wrap .u64 n57) % (IntKind.wrap .u64 (s25.l : Int)))) /\ (IntKind.wrap .i64 ((IntKind.wrap .u64 n57) % (IntKind.wrap .u64 (s25.l : Int)))) < (s25.l : Int) /\
  ∃ n59 : Int, ∃ n60 : Int, ∃ n61 : Int, ∃ n62 : Int, ∃ n63 : Int, ∃ n64 : Int, ∃ s65 : Slc, ∃ t66 : List UInt8, ∃ n67 : Int, ∃ n68 : Int, ∃ n69 : Int, ∃ s70 : Slc, rowAt w33 (Addr.add a58 ((Int.toNat (IntKind.wrap .i64 ((IntKind.wrap .u64 n57) % (IntKind.wrap .u64 (s25.l : Int))))) * 12)) 0 [(.int .i64 n59), (.int .i64 n60), (.int .i64 n61), (.int .i64 n62), (.int .i64 n63), (.int .i64 n64), s65.v, (ak t66), (.int .i64 n67), (.int .i64 n68), (.int .i64 n69), s70.v] /\
  aH w33 (.cells ⟨[(.int .i64 ((all31.l : Int) + (9 : Int))), (.int .i64 n59), (.int .i64 n60), (.int .i64 n61), (.int .i64 n62), (.int .i64 n63), (.int .i64 n64), s65.v, (ak t66), (.int .i64 n67), (.int .i64 n68), (.int .i64 n69), s70.v, (Slc.v ⟨none, 0, 0⟩), (.bool false)]⟩ 54) fun r71 w72 =>
  aP 15 54 [(.int .i64 0), (.int .i64 0), (.int .i64 0), (.int .i64 0), (.int .i64 0), (.int .i64 0), (.int .i64 0), (Slc.v ⟨none, 0, 0⟩), (ak ([] : List UInt8)), (.int .i64 0), (.int .i64 0), (.int .i64 0), (Slc.v ⟨none, 0, 0⟩), (Slc.v ⟨none, 0, 0⟩), (.bool false)] w72 all31 (.slc (⟨(some ⟨r71, 0, none⟩), 1, 1⟩ : Slc)) fun s73 w74 =>
  inR .i64 (i32 + 1) /\
  (I29 (s73) ((i32 + 1)) w74 /\ mu30 (s73) ((i32 + 1)) w74 < mu30 all31 i32 w33)) (
  ∃ (I75 : (Slc) -> (Int) -> World -> Prop) (mu76 : (Slc) -> (Int) -> World -> Nat), I75 (all31) ((0 : Int)) w33 /\ (
  ∀ all77 : Slc, ∀ i78 : Int, ∀ w79 : World, I75 all77 i78 w79 -> ∀ _ _ _ _ _ _ _ _ _ _ _ _ _ _ _ _ _ _ _ _ _ _ _ _ _ _ _ _ _ _ _ _ _ _ _ _ _ _ _ _ : Value,
  BIf (decide (i78 < (others3.l : Int))) (
  needSome others3.p fun a120 =>
  0 <= i78 /\ i78 < (others3.l : Int) /\
  ∃ n121 : Int, ∃ n122 : Int, ∃ n123 : Int, ∃ n124 : Int, ∃ n125 : Int, ∃ n126 : Int, ∃ s127 : Slc, ∃ t128 : List UInt8, ∃ n129 : Int, ∃ n130 : Int, ∃ n131 : Int, ∃ s132 : Slc, rowAt w79 (Addr.add a120 ((Int.toNat i78) * 12)) 0 [(.int .i64 n121), (.int .i64 n122), (.int .i64 n123), (.int .i64 n124), (.int .i64 n125), (.int .i64 n126), s127.v, (ak t128), (.int .i64 n129), (.int .i64 n130), (.int .i64 n131), s132.v] /\
  aH w79 (.cells ⟨[(.int .i64 0), (.int .i64 0), (.int .i64 0), (.int .i64 0), (.int .i64 0), (.int .i64 0), (Slc.v ⟨none, 0, 0⟩), (ak ([] : List UInt8)), (.int .i64 0), (.int .i64 0), (.int .i64 0), (Slc.v ⟨none, 0, 0⟩)]⟩ 50) fun r133 w134 =>
  aO w134 ⟨r133, 0, none⟩ 12 /\ ∀ w135, w135 = setCells w134 ⟨r133, 0, none⟩ 0 [(.int .i64 n121), (.int .i64 n122), (.int .i64 n123), (.int .i64 n124), (.int .i64 n125), (.int .i64 n126), s127.v, (ak t128), (.int .i64 n129), (.int .i64 n130), (.int .i64 n131), s132.v] ->
  ∃ n136, w135.cell? ⟨r133, 0, none⟩ = some (.int .i64 n136) /\
  BIf (decide (n136 = 5)) (
  ∃ n137, w135.cell? ⟨r133, 1, none⟩ = some (.int .i64 n137) /\
  BIf (decide (n137 = 3)) (
  K (.bool true) w135) (
  ∃ s138, w135.cell? ⟨r133, 6, none⟩ = some (Slc.v s138) /\
  BIf (decide ((20 : Int) < (s138.l : Int))) (
  K (.bool true) w135) (
  ∃ s139, w135.cell? ⟨r133, 11, none⟩ = some (Slc.v s139) /\
  BIf (decide ((600 : Int) < (s139.l : Int))) (
  K (.bool true) w135) (
  ∃ t140 : List UInt8, w135.cell? ⟨r133, 7, none⟩ = some (ak t140) /\
  BIf (decide ((300 : Int) < (((List.length t140) : Nat) : Int))) (
  K (.bool true) w135) (
  inR .i64 ((all77.l : Int) + (9 : Int)) /\
  ∃ n141 : Int, ∃ n142 : Int, ∃ n143 : Int, ∃ n144 : Int, ∃ n145 : Int, ∃ n146 : Int, ∃ s147 : Slc, ∃ t148 : List UInt8, ∃ n149 : Int, ∃ n150 : Int, ∃ n151 : Int, ∃ s152 : Slc, rowAt w135 ⟨r133, 0, none⟩ 0 [(.int .i64 n141), (.int .i64 n142), (.int .i64 n143), (.int .i64 n144), (.int .i64 n145), (.int .i64 n146), s147.v, (ak t148), (.int .i64 n149), (.int .i64 n150), (.int .i64 n151), s152.v] /\
  aH w135 (.cells ⟨[(.int .i64 ((all77.l : Int) + (9 : Int))), (.int .i64 n141), (.int .i64 n142), (.int .i64 n143), (.int .i64 n144), (.int .i64 n145), (.int .i64 n146), s147.v, (ak t148), (.int .i64 n149), (.int .i64 n150), (.int .i64 n151), s152.v, (Slc.v ⟨none, 0, 0⟩), (.bool false)]⟩ 54) fun r153 w154 =>
  aP 15 54 [(.int .i64 0), (.int .i64 0), (.int .i64 0), (.int .i64 0), (.int .i64 0), (.int .i64 0), (.int .i64 0), (Slc.v ⟨none, 0, 0⟩), (ak ([] : List UInt8)), (.int .i64 0), (.int .i64 0), (.int .i64 0), (Slc.v ⟨none, 0, 0⟩), (Slc.v ⟨none, 0, 0⟩), (.bool false)] w154 all77 (.slc (⟨(some ⟨r153, 0, none⟩), 1, 1⟩ : Slc)) fun s155 w156 =>
  inR .i64 (i78 + 1) /\
  (I75 (s155) ((i78 + 1)) w156 /\ mu76 (s155) ((i78 + 1)) w156 < mu76 all77 i78 w79)))))) (
  ∃ s157, w135.cell? ⟨r133, 6, none⟩ = some (Slc.v s157) /\
  BIf (decide ((20 : Int) < (s157.l : Int))) (
  K (.bool true) w135) (
  ∃ s158, w135.cell? ⟨r133, 11, none⟩ = some (Slc.v s158) /\
  BIf (decide ((600 : Int) < (s158.l : Int))) (
  K (.bool true) w135) (
  ∃ t159 : List UInt8, w135.cell? ⟨r133, 7, none⟩ = some (ak t159) /\
  BIf (decide ((300 : Int) < (((List.length t159) : Nat) : Int))) (
  K (.bool true) w135) (
  inR .i64 ((all77.l : Int) + (9 : Int)) /\
  ∃ n160 : Int, ∃ n161 : Int, ∃ n162 : Int, ∃ n163 : Int, ∃ n164 : Int, ∃ n165 : Int, ∃ s166 : Slc, ∃ t167 : List UInt8, ∃ n168 : Int, ∃ n169 : Int, ∃ n170 : Int, ∃ s171 : Slc, rowAt w135 ⟨r133, 0, none⟩ 0 [(.int .i64 n160), (.int .i64 n161), (.int .i64 n162), (.int .i64 n163), (.int .i64 n164), (.int .i64 n165), s166.v, (ak t167), (.int .i64 n168), (.int .i64 n169), (.int .i64 n170), s171.v] /\
  aH w135 (.cells ⟨[(.int .i64 ((all77.l : Int) + (9 : Int))), (.int .i64 n160), (.int .i64 n161), (.int .i64 n162), (.int .i64 n163), (.int .i64 n164), (.int .i64 n165), s166.v, (ak t167), (.int .i64 n168), (.int .i64 n169), (.int .i64 n170), s171.v, (Slc.v ⟨none, 0, 0⟩), (.bool false)]⟩ 54) fun r172 w173 =>
  aP 15 54 [(.int .i64 0), (.int .i64 0), (.int .i64 0), (.int .i64 0), (.int .i64 0), (.int .i64 0), (.int .i64 0), (Slc.v ⟨none, 0, 0⟩), (ak ([] : List UInt8)), (.int .i64 0), (.int .i64 0), (.int .i64 0), (Slc.v ⟨none, 0, 0⟩), (Slc.v ⟨none, 0, 0⟩), (.bool false)] w173 all77 (.slc (⟨(some ⟨r172, 0, none⟩), 1, 1⟩ : Slc)) fun s174 w175 =>
  inR .i64 (i78 + 1) /\
  (I75 (s174) ((i78 + 1)) w175 /\ mu76 (s174) ((i78 + 1)) w175 < mu76 all77 i78 w79)))))) (
  ∃ (I176 : (Slc) -> (Int) -> World -> Prop) (mu177 : (Slc) -> (Int) -> World -> Nat), I176 (all77) ((0 : Int)) w79 /\ (
  ∀ all178 : Slc, ∀ i179 : Int, ∀ w180 : World, I176 all178 i179 w180 -> ∀ _ _ _ _ _ _ _ _ _ _ _ _ _ : Value,
  BIf (decide (i179 < (s25.l : Int))) (
  needSome s25.p fun a194 =>
  0 <= i179 /\ i179 < (s25.l : Int) /\
  ∃ n195 : Int, ∃ n196 : Int, ∃ n197 : Int, ∃ n198 : Int, ∃ n199 : Int, ∃ n200 : Int, ∃ s201 : Slc, ∃ t202 : List UInt8, ∃ n203 : Int, ∃ n204 : Int, ∃ n205 : Int, ∃ s206 : Slc, rowAt w180 (Addr.add a194 ((Int.toNat i179) * 12)) 0 [(.int .i64 n195), (.int .i64 n196), (.int .i64 n197), (.int .i64 n198), (.int .i64 n199), (.int .i64 n200), s201.v, (ak t202), (.int .i64 n203), (.int .i64 n204), (.int .i64 n205), s206.v] /\
  aH w180 (.cells ⟨[(.int .i64 0), (.int .i64 0), (.int .i64 0), (.int .i64 0), (.int .i64 0), (.int .i64 0), (Slc.v ⟨none, 0, 0⟩), (ak ([] : List UInt8)), (.int .i64 0), (.int .i64 0), (.int .i64 0), (Slc.v ⟨none, 0, 0⟩)]⟩ 50) fun r207 w208 =>
  aO w208 ⟨r207, 0, none⟩ 12 /\ ∀ w209, w209 = setCells w208 ⟨r207, 0, none⟩ 0 [(.int .i64 n195), (.int .i64 n196), (.int .i64 n197), (.int .i64 n198), (.int .i64 n199), (.int .i64 n200), s201.v, (ak t202), (.int .i64 n203), (.int .i64 n204), (.int .i64 n205), s206.v] ->
  inR .i64 ((all178.l : Int) + (9 : Int)) /\
  ∃ n210 : Int, ∃ n211 : Int, ∃ n212 : Int, ∃ n213 : Int, ∃ n214 : Int, ∃ n215 : Int, ∃ s216 : Slc, ∃ t217 : List UInt8, ∃ n218 : Int, ∃ n219 : Int, ∃ n220 : Int, ∃ s221 : Slc, rowAt w209 ⟨r207, 0, none⟩ 0 [(.int .i64 n210), (.int .i64 n211), (.int .i64 n212), (.int .i64 n213), (.int .i64 n214), (.int .i64 n215), s216.v, (ak t217), (.int .i64 n218), (.int .i64 n219), (.int .i64 n220), s221.v] /\
  aH w209 (.cells ⟨[(.int .i64 ((all178.l : Int) + (9 : Int))), (.int .i64 n210), (.int .i64 n211), (.int .i64 n212), (.int .i64 n213), (.int .i64 n214), (.int .i64 n215), s216.v, (ak t217), (.int .i64 n218), (.int .i64 n219), (.int .i64 n220), s221.v, (Slc.v ⟨none, 0, 0⟩), (.bool false)]⟩ 54) fun r222 w223 =>
  aP 15 54 [(.int .i64 0), (.int .i64 0), (.int .i64 0), (.int .i64 0), (.int .i64 0), (.int .i64 0), (.int .i64 0), (Slc.v ⟨none, 0, 0⟩), (ak ([] : List UInt8)), (.int .i64 0), (.int .i64 0), (.int .i64 0), (Slc.v ⟨none, 0, 0⟩), (Slc.v ⟨none, 0, 0⟩), (.bool false)] w223 all178 (.slc (⟨(some ⟨r222, 0, none⟩), 1, 1⟩ : Slc)) fun s224 w225 =>
  inR .i64 (i179 + 1) /\
  (I176 (s224) ((i179 + 1)) w225 /\ mu177 (s224) ((i179 + 1)) w225 < mu177 all178 i179 w180)) (
  Calls Tryd.prog ct ⟨[all178.v, (.int .i64 3)]⟩ w180 fun e226 w227 =>
  ∃ s228, e226 = .returned (Slc.v s228) /\
  Calls Tryd.prog bU ⟨[all178.v, (.int .i64 3), (.int .i64 8)]⟩ w227 fun e229 w230 =>
  ∃ x231 : Int, ∃ x232 : Int, ∃ x233 : Int, ∃ x234 : Int, ∃ x235 : Slc, ∃ b236, e229 = .returned (.tuple ⟨[(.agg ⟨[(.int .i64 x231), (.int .i64 x232), (.int .i64 x233), (.int .i64 x234), x235.v]⟩), (.bool b236)]⟩) /\
  aH w230 (.cells ⟨[(.int .i64 0), (.int .i64 0), (.int .i64 0), (.int .i64 0), (Slc.v ⟨none, 0, 0⟩)]⟩ 35) fun r237 w238 =>
  aO w238 ⟨r237, 0, none⟩ 5 /\ ∀ w239, w239 = setCells w238 ⟨r237, 0, none⟩ 0 [(.int .i64 x231), (.int .i64 x232), (.int .i64 x233), (.int .i64 x234), x235.v] ->
  Calls Tryd.prog bU ⟨[all178.v, (.int .i64 3), (.int .i64 9)]⟩ w239 fun e240 w241 =>
  ∃ x242 : Int, ∃ x243 : Int, ∃ x244 : Int, ∃ x245 : Int, ∃ x246 : Slc, ∃ b247, e240 = .returned (.tuple ⟨[(.agg ⟨[(.int .i64 x242), (.int .i64 x243), (.int .i64 x244), (.int .i64 x245), x246.v]⟩), (.bool b247)]⟩) /\
  aH w241 (.cells ⟨[(.int .i64 0), (.int .i64 0), (.int .i64 0), (.int .i64 0), (Slc.v ⟨none, 0, 0⟩)]⟩ 35) fun r248 w249 =>
  aO w249 ⟨r248, 0, none⟩ 5 /\ ∀ w250, w250 = setCells w249 ⟨r248, 0, none⟩ 0 [(.int .i64 x242), (.int .i64 x243), (.int .i64 x244), (.int .i64 x245), x246.v] ->
  BIf (decide ((s228.l : Int) = (1 : Int))) (
  needSome s228.p fun a251 =>
  0 <= (0 : Int) /\ (0 : Int) < (s228.l : Int) /\
  ∃ s252, w250.drew.cell? (a251.add 4) = some (Slc.v s252) /\
  ∃ t253 : List UInt8, ag w250.drew s252 t253 /\
  ∃ t254 : List UInt8, ag w250.drew data1 t254 /\
  BIf (decide (t253 = t254)) (
  needSome s228.p fun a255 =>
  0 <= (0 : Int) /\ (0 : Int) < (s228.l : Int) /\
  ∃ n256, w250.drew.cell? a255 = some (.int .i64 n256) /\
  BIf (decide (n256 = 9)) (
  needSome s228.p fun a257 =>
  0 <= (0 : Int) /\ (0 : Int) < (s228.l : Int) /\
  ∃ n258, w250.drew.cell? (a257.add 2) = some (.int .i64 n258) /\
  BIf (decide (9 <= n258)) (
  needSome s228.p fun a259 =>
  0 <= (0 : Int) /\ (0 : Int) < (s228.l : Int) /\
  ∃ n260, w250.drew.cell? (a259.add 3) = some (.int .i64 n260) /\
  inR .i64 ((all178.l : Int) + (9 : Int)) /\
  BIf (decide (n260 < ((all178.l : Int) + (9 : Int)))) (
  BIf (!b236) (
  BIf b247 (
  ∃ s261, w250.drew.cell? ⟨r248, 4, none⟩ = some (Slc.v s261) /\
  ∃ t262 : List UInt8, ag w250.drew s261 t262 /\
  ∃ t263 : List UInt8, ag w250.drew data1 t263 /\
  K (.bool (decide (t262 = t263))) w250.drew) (
  K (.bool false) w250.drew)) (
  K (.bool false) w250.drew)) (
  K (.bool false) w250.drew)) (
  K (.bool false) w250.drew)) (
  K (.bool false) w250.drew)) (
  K (.bool false) w250.drew)) (
  K (.bool false) w250.drew))))))))))
theorem cH (data1 : Slc) (order2 : Slc) (others3 : Slc) {w : World} {R : Ending -> World -> Prop} (h : bT data1 order2 others3 w fun v w' => R (.returned v) w') : Calls Tryd.prog bB ⟨[data1.v, order2.v, others3.v]⟩ w R :=
  ah (ann := (.two .none (.two .none (.cut [] ([6] ++ List.range' 23 13) .none (.two .none (.two .none (.two .none (.two (.two .none (.one (.loop [(9, Sh.slc), (46, (Sh.int .i64))] ([11] ++ List.range' 47 21) .none))) (.two (.two .none (.one (.loop [(9, Sh.slc), (70, (Sh.int .i64))] ([6, 13] ++ List.range' 71 38) .none))) (.two (.two .none (.one (.loop [(9, Sh.slc), (111, (Sh.int .i64))] ([15] ++ List.range' 112 12) .none))) .none)))))))))) aw mixed Tryd.func4 (Eq.mp (by kernel_rfl) h)
end Go.D

