/-
  WHAT IS PROVED: verification conditions of functions of this program, each with its soundness. No further conditions.
-/
import Derived.Test.YtnbddjghhmbmcaaGreatDoorBase
set_option linter.unusedSimpArgs false
set_option maxRecDepth 100000
set_option linter.unusedVariables false
namespace Go.D
open Go Go.Proofs
def fb (p1 : Int) (p2 : Slc) (list3 : Slc) (to4 : Int) (w : World) (K : Value -> World -> Prop) : Prop :=
  aP w (.cells ⟨[(.int .i64 p1), (Slc.v p2)]⟩ 24) fun r5 w6 =>
  Calls Tryz.prog dz ⟨[]⟩ w6 fun e7 w8 =>
  ∃ b9, e7 = .returned (.bool b9) /\
  BIf (!b9) (
  K (.bool false) w8) (
  ∃ J10 : World -> Prop,
  (
  ∃ n11 : Int, ∃ s12 : Slc, rowAt w8 ⟨r5, 0, none⟩ 0 [(.int .i64 n11), (Slc.v s12)] /\
  Calls Tryz.prog dP ⟨[(.agg ⟨[(.int .i64 n11), (Slc.v s12)]⟩)]⟩ w8 fun e13 w14 =>
  ∃ b15, e13 = .returned (.bool b15) /\
  BIf b15 (
  K (.bool true) w14) (
  BIf (decide ((30 : Int) < (list3.l : Int))) (
  K (.bool true) w14) (
  ∃ n16 : Int, ∃ s17 : Slc, rowAt w14 ⟨r5, 0, none⟩ 0 [(.int .i64 n16), (Slc.v s17)] /\
  Calls Tryz.prog ef ⟨[(.agg ⟨[(.int .i64 n16), (Slc.v s17)]⟩)]⟩ w14 fun e18 w19 =>
  ∃ b20, e18 = .returned (.bool b20) /\
  BIf (!b20) (
  K (.bool true) w19) (
  ∃ n21, w19.cell? ⟨r5, 0, none⟩ = some (.int .i64 n21) /\
  BIf (decide ((1000 : Int) < n21)) (
  K (.bool true) w19) (
  J10 w19))))) /\ (
  ∀ w22 : World, J10 w22 -> ∀ _ _ _ _ _ _ _ _ _ _ _ _ _ _ _ _ _ _ : Value,
  ∃ n41 : Int, ∃ s42 : Slc, rowAt w22 ⟨r5, 0, none⟩ 0 [(.int .i64 n41), (Slc.v s42)] /\
  Calls Tryz.prog dA ⟨[(.agg ⟨[(.int .i64 n41), (Slc.v s42)]⟩)]⟩ w22 fun e43 w44 =>
  ∃ p45, e43 = .returned (.pointer p45) /\
  needSome p45 fun a46 =>
  ∃ s47, w44.cell? a46 = some (Slc.v s47) /\
  BIf (!decide ((s47.l : Int) = (6 : Int))) (
  K (.bool false) w44) (
  ∃ n48 : Int, ∃ s49 : Slc, rowAt w44 ⟨r5, 0, none⟩ 0 [(.int .i64 n48), (Slc.v s49)] /\
  Calls Tryz.prog jI ⟨[(.agg ⟨[(.int .i64 n48), (Slc.v s49)]⟩)]⟩ w44 fun e50 w51 =>
  ∃ s52, e50 = .returned (Slc.v s52) /\
  ∃ (I53 : (Int) -> World -> Prop) (mu54 : (Int) -> World -> Nat), I53 ((0 : Int)) w51 /\ (
  ∀ i55 : Int, ∀ w56 : World, I53 i55 w56 -> ∀ _ _ _ _ _ _ _ _ : Value,
  BIf (decide (i55 < (s52.l : Int))) (
  needSome s52.p fun a65 =>
  0 <= i55 /\ i55 < (s52.l : Int) /\
  ∃ n66, w56.cell? (Addr.add a65 ((Int.toNat i55) * 1)) = some (.int .i64 n66) /\
  BIf (decide ((5 : Int) < n66)) (
  K (.bool true) w56) (
  inR .i64 (i55 + (1 : Int)) /\
  (I53 ((i55 + (1 : Int))) w56 /\ mu54 ((i55 + (1 : Int))) w56 < mu54 i55 w56))) (
  ∃ (I67 : (Int) -> World -> Prop) (mu68 : (Int) -> World -> Nat), I67 ((0 : Int)) w56 /\ (
  ∀ i69 : Int, ∀ w70 : World, I67 i69 w70 -> ∀ _ _ _ _ _ _ _ _ _ _ _ _ _ _ _ _ _ _ _ _ _ _ _ _ : Value,
  BIf (decide (i69 < (list3.l : Int))) (
  needSome list3.p fun a95 =>
  0 <= i69 /\ i69 < (list3.l : Int) /\
  ∃ n96 : Int, ∃ n97 : Int, ∃ n98 : Int, ∃ t99 : List UInt8, rowAt w70 (Addr.add a95 ((Int.toNat i69) * 4)) 0 [(.int .i64 n96), (.int .i64 n97), (.int .i64 n98), (aT t99)] /\
  aP w70 (.cells ⟨[(.int .i64 (0 : Int)), (.int .i64 (0 : Int)), (.int .i64 (0 : Int)), (aT ([] : List UInt8))]⟩ 40) fun r100 w101 =>
  aJ w101 ⟨r100, 0, none⟩ 4 /\ ∀ w102, w102 = setCells w101 ⟨r100, 0, none⟩ 0 [(.int .i64 n96), (.int .i64 n97), (.int .i64 n98), (aT t99)] ->
  ∃ t103 : List UInt8, w102.cell? ⟨r100, 3, none⟩ = some (aT t103) /\
  BIf (decide ((300 : Int) < (((List.length t103) : Nat) : Int))) (
  K (.bool true) w102) (
  needSome p45 fun a104 =>
  ∃ s105, w102.drew.cell? a104 = some (Slc.v s105) /\
  ∃ n106 : Int, ∃ s107 : Slc, rowAt w102.drew ⟨r5, 0, none⟩ 0 [(.int .i64 n106), (Slc.v s107)] /\
  ∃ n108, w102.drew.cell? ⟨r100, 1, none⟩ = some (.int .i64 n108) /\
  0 <= (IntKind.wrap .u64 n108) /\ 0 < (20 : Int) /\
  ∃ t109 : List UInt8, w102.drew.cell? ⟨r100, 3, none⟩ = some (aT t109) /\
  pO Tryz.prog 5 t109 w102.drew fun s110 w111 =>
  (∃ n112, w111.cell? ⟨r100, 1, none⟩ = some (.int .i64 n112) /\
  (Value.int .i64 n112) = (Value.int .i64 n108)) /\
  (∃ n113 : Int, ∃ s114 : Slc, rowAt w111 ⟨r5, 0, none⟩ 0 [(.int .i64 n113), (Slc.v s114)] /\
  (Value.agg ⟨[(Value.int .i64 n113), (Slc.v s114)]⟩) = (Value.agg ⟨[(Value.int .i64 n106), (Slc.v s107)]⟩)) /\
  (∃ s115, w111.cell? a104 = some (Slc.v s115) /\
  (Slc.v s115) = (Slc.v s105)) /\
  Calls Tryz.prog fS ⟨[(Slc.v s105), (.agg ⟨[(.int .i64 n106), (Slc.v s107)]⟩), (.int .i64 (IntKind.wrap .i64 ((IntKind.wrap .u64 n108) % (20 : Int)))), (Slc.v s110)]⟩ w111 fun e116 w117 =>
  ∃ e118, e116 = .returned e118 /\
  inR .i64 (i69 + (1 : Int)) /\
  (I67 ((i69 + (1 : Int))) w117 /\ mu68 ((i69 + (1 : Int))) w117 < mu68 i69 w70))) (
  0 <= (IntKind.wrap .u64 to4) /\ 0 < (22 : Int) /\
  aP w70 (.cells ⟨[(aT ([] : List UInt8)), (aT ([] : List UInt8)), (aT ([] : List UInt8)), (aT ([] : List UInt8)), (aT ([] : List UInt8)), (aT ([] : List UInt8)), (aT ([] : List UInt8)), (aT ([] : List UInt8)), (aT ([] : List UInt8)), (aT ([] : List UInt8)), (aT ([] : List UInt8)), (aT ([] : List UInt8)), (aT ([] : List UInt8)), (aT ([] : List UInt8)), (aT ([] : List UInt8)), (aT ([] : List UInt8)), (aT ([] : List UInt8)), (aT ([] : List UInt8)), (aT ([] : List UInt8)), (aT ([] : List UInt8)), (aT ([] : List UInt8)), (aT ([] : List UInt8)), (aT ([] : List UInt8)), (aT ([] : List UInt8))]⟩ 46) fun r119 w120 =>
  aJ w120 ⟨r119, 0, none⟩ 24 /\ ∀ w121, w121 = setCells w120 ⟨r119, 0, none⟩ 0 [(aT ([] : List UInt8)), (aT ([] : List UInt8)), (aT ([] : List UInt8)), (aT ([] : List UInt8)), (aT ([] : List UInt8)), (aT ([] : List UInt8)), (aT ([] : List UInt8)), (aT ([] : List UInt8)), (aT ([] : List UInt8)), (aT ([] : List UInt8)), (aT ([] : List UInt8)), (aT ([] : List UInt8)), (aT ([] : List UInt8)), (aT ([] : List UInt8)), (aT ([] : List UInt8)), (aT ([] : List UInt8)), (aT ([] : List UInt8)), (aT ([] : List UInt8)), (aT ([] : List UInt8)), (aT ([] : List UInt8)), (aT ([] : List UInt8)), (aT ([] : List UInt8)), (aT ([] : List UInt8)), (aT ([] : List UInt8))] ->
  ∃ (I122 : (Int) -> World -> Prop) (mu123 : (Int) -> World -> Nat), I122 ((0 : Int)) w121 /\ (
  ∀ i124 : Int, ∀ w125 : World, I122 i124 w125 -> ∀ _ _ _ _ _ _ _ _ _ _ _ _ _ _ _ _ _ _ _ _ _ _ : Value,
  BIf (decide (i124 < (24 : Int))) (
  needSome p45 fun a148 =>
  ∃ s149, w125.drew.cell? a148 = some (Slc.v s149) /\
  ∃ n150 : Int, ∃ s151 : Slc, rowAt w125.drew ⟨r5, 0, none⟩ 0 [(.int .i64 n150), (Slc.v s151)] /\
  Calls Tryz.prog gJ ⟨[(Slc.v s149), (.agg ⟨[(.int .i64 n150), (Slc.v s151)]⟩), (.int .i64 i124)]⟩ w125.drew fun e152 w153 =>
  ∃ s154 : Slc, ∃ e155, e152 = .returned (.tuple ⟨[(Slc.v s154), e155]⟩) /\
  isI e155 /\
  BIf (isNilI e155) (
  ∃ t156 : List UInt8, aq w153 s154 t156 /\
  0 <= i124 /\ i124 < ((24 : Nat) : Int) /\
  aJ w153 (Addr.add ⟨r119, 0, none⟩ ((Int.toNat i124) * 1)) 1 /\ ∀ w157, w157 = w153.setCell (Addr.add ⟨r119, 0, none⟩ ((Int.toNat i124) * 1)) (aT t156) ->
  inR .i64 (i124 + (1 : Int)) /\
  (I122 ((i124 + (1 : Int))) w157 /\ mu123 ((i124 + (1 : Int))) w157 < mu123 i124 w125)) (
  inR .i64 (i124 + (1 : Int)) /\
  (I122 ((i124 + (1 : Int))) w153 /\ mu123 ((i124 + (1 : Int))) w153 < mu123 i124 w125))) (
  needSome p45 fun a158 =>
  ∃ s159, w125.drew.cell? a158 = some (Slc.v s159) /\
  ∃ n160 : Int, ∃ s161 : Slc, rowAt w125.drew ⟨r5, 0, none⟩ 0 [(.int .i64 n160), (Slc.v s161)] /\
  Calls Tryz.prog jJ ⟨[(Slc.v s159), (.agg ⟨[(.int .i64 n160), (Slc.v s161)]⟩), (.int .i64 (IntKind.wrap .i64 ((IntKind.wrap .u64 to4) % (22 : Int))))]⟩ w125.drew fun e162 w163 =>
  ∃ e164, e162 = .returned e164 /\
  isI e164 /\
  BIf (!isNilI e164) (
  Calls Tryz.prog bk ⟨[e164]⟩ w163 fun e165 w166 =>
  ∃ n167, e165 = .returned (.int .i64 n167) /\
  K (.bool (decide (n167 = (13 : Int)))) w166) (
  ∃ (I168 : (Int) -> World -> Prop) (mu169 : (Int) -> World -> Nat), I168 ((0 : Int)) w163 /\ (
  ∀ i170 : Int, ∀ w171 : World, I168 i170 w171 -> ∀ _ _ _ _ _ _ _ _ _ _ _ _ _ _ _ _ _ _ _ _ _ _ _ _ _ _ _ _ _ _ _ _ _ _ _ _ _ _ _ _ _ _ _ _ _ _ _ : Value,
  BIf (decide (i170 < (24 : Int))) (
  needSome p45 fun a219 =>
  ∃ s220, w171.drew.cell? a219 = some (Slc.v s220) /\
  ∃ n221 : Int, ∃ s222 : Slc, rowAt w171.drew ⟨r5, 0, none⟩ 0 [(.int .i64 n221), (Slc.v s222)] /\
  Calls Tryz.prog gJ ⟨[(Slc.v s220), (.agg ⟨[(.int .i64 n221), (Slc.v s222)]⟩), (.int .i64 i170)]⟩ w171.drew fun e223 w224 =>
  ∃ s225 : Slc, ∃ e226, e223 = .returned (.tuple ⟨[(Slc.v s225), e226]⟩) /\
  BIf (decide (i170 < (IntKind.wrap .i64 ((IntKind.wrap .u64 to4) % (22 : Int))))) (
  Calls Tryz.prog bk ⟨[e226]⟩ w224.drew fun e227 w228 =>
  ∃ n229, e227 = .returned (.int .i64 n229) /\
  BIf (!decide (n229 = (11 : Int))) (
  K (.bool false) w228) (
  BIf (decide ((IntKind.wrap .i64 ((IntKind.wrap .u64 to4) % (22 : Int))) <= i170)) (
  ∃ t230 : List UInt8, aq w228 s225 t230 /\
  0 <= i170 /\ i170 < ((24 : Nat) : Int) /\
  ∃ t231 : List UInt8, w228.cell? (Addr.add ⟨r119, 0, none⟩ ((Int.toNat i170) * 1)) = some (aT t231) /\
  BIf (!decide (t230 = t231)) (
  K (.bool false) w228) (
  isI e226 /\
  0 <= i170 /\ i170 < ((24 : Nat) : Int) /\
  ∃ t232 : List UInt8, w228.cell? (Addr.add ⟨r119, 0, none⟩ ((Int.toNat i170) * 1)) = some (aT t232) /\
  BIf (!((isNilI e226) == (!decide (t232 = ([] : List UInt8))))) (
  K (.bool false) w228) (
  inR .i64 (i170 + (1 : Int)) /\
  (I168 ((i170 + (1 : Int))) w228 /\ mu169 ((i170 + (1 : Int))) w228 < mu169 i170 w171)))) (
  inR .i64 (i170 + (1 : Int)) /\
  (I168 ((i170 + (1 : Int))) w228 /\ mu169 ((i170 + (1 : Int))) w228 < mu169 i170 w171)))) (
  BIf (decide ((IntKind.wrap .i64 ((IntKind.wrap .u64 to4) % (22 : Int))) <= i170)) (
  ∃ t233 : List UInt8, aq w224.drew s225 t233 /\
  0 <= i170 /\ i170 < ((24 : Nat) : Int) /\
  ∃ t234 : List UInt8, w224.drew.cell? (Addr.add ⟨r119, 0, none⟩ ((Int.toNat i170) * 1)) = some (aT t234) /\
  BIf (!decide (t233 = t234)) (
  K (.bool false) w224.drew) (
  isI e226 /\
  0 <= i170 /\ i170 < ((24 : Nat) : Int) /\
  ∃ t235 : List UInt8, w224.drew.cell? (Addr.add ⟨r119, 0, none⟩ ((Int.toNat i170) * 1)) = some (aT t235) /\
  BIf (!((isNilI e226) == (!decide (t235 = ([] : List UInt8))))) (
  K (.bool false) w224.drew) (
  inR .i64 (i170 + (1 : Int)) /\
  (I168 ((i170 + (1 : Int))) w224.drew /\ mu169 ((i170 + (1 : Int))) w224.drew < mu169 i170 w171)))) (
  inR .i64 (i170 + (1 : Int)) /\
  (I168 ((i170 + (1 : Int))) w224.drew /\ mu169 ((i170 + (1 : Int))) w224.drew < mu169 i170 w171)))) (
  K (.bool true) w171))))))))))))
theorem g9 (p1 : Int) (p2 : Slc) (list3 : Slc) (to4 : Int) {w : World} {R : Ending -> World -> Prop} (h : fb p1 p2 list3 to4 w fun v w' => R (.returned v) w') : Calls Tryz.prog cl ⟨[(.agg ⟨[(.int .i64 p1), (Slc.v p2)]⟩), (Slc.v list3), (.int .i64 to4)]⟩ w R :=
  ab (ann := (.two .none (.two .none (.cut [] ([6] ++ List.range' 22 17) .none (.two .none (.two .none (.two (.two .none (.one (.loop [(50, (Sh.int .i64))] [6, 9, 51, 52, 53, 54, 55, 56] .none))) (.two (.two .none (.one (.loop [(59, (Sh.int .i64))] ([6, 11] ++ List.range' 60 22) .none))) (.two .none (.two .none (.two (.two .none (.one (.loop [(87, (Sh.int .i64))] ([13, 14, 15] ++ List.range' 88 19) .none))) (.two .none (.two (.two .none (.one (.loop [(119, (Sh.int .i64))] ([6, 17, 18, 19] ++ List.range' 120 43) .none))) .none))))))))))))) ag mixed Tryz.func3 (Eq.mp (by kernel_rfl) h)
end Go.D

