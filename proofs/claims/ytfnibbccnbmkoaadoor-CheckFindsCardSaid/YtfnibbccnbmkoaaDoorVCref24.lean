/-
  WHAT IS PROVED: verification conditions of functions of this program, each with its soundness. No further conditions.
-/
import Derived.Test.YtfnibbccnbmkoaaDoorBase
set_option linter.unusedSimpArgs false
set_option maxRecDepth 100000
set_option linter.unusedVariables false
namespace Go.D
open Go Go.Proofs
def ei (n1 : Int) (most2 : Int) (w : World) (K : Value -> World -> Prop) : Prop :=
  BIf (decide (1 <= n1)) (
  K (.bool (decide (n1 <= most2))) w) (
  K (.bool false) w)
theorem fK (n1 : Int) (most2 : Int) {w : World} {R : Ending -> World -> Prop} (h : ei n1 most2 w fun v w' => R (.returned v) w') : Calls Tryd.prog au ⟨[(.int .i64 n1), (.int .i64 most2)]⟩ w R :=
  ae (ann := .none) aj mixed Tryd.func42 (Eq.mp (by kernel_rfl) h)
def dW (e1 : Int) (e2 : Int) (e3 : Int) (e4 : Int) (e5 : Int) (e6 : Int) (e7 : Slc) (e8 : List UInt8) (e9 : Int) (e10 : Int) (e11 : Int) (e12 : Slc) (w : World) (K : Value -> World -> Prop) : Prop :=
  aK w (.cells ⟨[(.int .i64 e1), (.int .i64 e2), (.int .i64 e3), (.int .i64 e4), (.int .i64 e5), (.int .i64 e6), e7.v, (aq e8), (.int .i64 e9), (.int .i64 e10), (.int .i64 e11), e12.v]⟩ 50) fun r13 w14 =>
  ∃ J15 : (Bool) -> World -> Prop,
  (
  ∃ n16, w14.cell? ⟨r13, 1, none⟩ = some (.int .i64 n16) /\
  Calls Tryd.prog au ⟨[(.int .i64 n16), (.int .i64 12)]⟩ w14 fun e17 w18 =>
  ∃ b19, e17 = .returned (.bool b19) /\
  BIf b19 (
  ∃ n20, w18.cell? ⟨r13, 2, none⟩ = some (.int .i64 n20) /\
  Calls Tryd.prog au ⟨[(.int .i64 n20), (.int .i64 12)]⟩ w18 fun e21 w22 =>
  ∃ b23, e21 = .returned (.bool b23) /\
  BIf b23 (
  ∃ n24, w22.cell? ⟨r13, 1, none⟩ = some (.int .i64 n24) /\
  ∃ n25, w22.cell? ⟨r13, 2, none⟩ = some (.int .i64 n25) /\
  J15 ((!decide (n24 = n25))) w22) (
  J15 (false) w22)) (
  J15 (false) w18)) /\ (
  ∀ two26 : Bool, ∀ w27 : World, J15 two26 w27 -> ∀ _ _ _ _ _ _ _ _ _ _ _ _ _ _ _ : Value,
  ∃ n43, w27.cell? ⟨r13, 0, none⟩ = some (.int .i64 n43) /\
  BIf (decide (n43 = 1)) (
  ∃ J44 : World -> Prop,
  (
  ∃ n45, w27.cell? ⟨r13, 1, none⟩ = some (.int .i64 n45) /\
  Calls Tryd.prog au ⟨[(.int .i64 n45), (.int .i64 12)]⟩ w27 fun e46 w47 =>
  ∃ b48, e46 = .returned (.bool b48) /\
  BIf (!b48) (
  K (.bool false) w47) (
  ∃ n49, w47.cell? ⟨r13, 4, none⟩ = some (.int .i64 n49) /\
  Calls Tryd.prog au ⟨[(.int .i64 n49), (.int .i64 4)]⟩ w47 fun e50 w51 =>
  ∃ b52, e50 = .returned (.bool b52) /\
  BIf (!b52) (
  K (.bool false) w51) (
  ∃ n53, w51.cell? ⟨r13, 5, none⟩ = some (.int .i64 n53) /\
  Calls Tryd.prog au ⟨[(.int .i64 n53), (.int .i64 1073741824)]⟩ w51 fun e54 w55 =>
  ∃ b56, e54 = .returned (.bool b56) /\
  BIf (!b56) (
  K (.bool false) w55) (
  ∃ s57, w55.cell? ⟨r13, 6, none⟩ = some (Slc.v s57) /\
  Calls Tryd.prog au ⟨[(.int .i64 (s57.l : Int)), (.int .i64 8)]⟩ w55 fun e58 w59 =>
  ∃ b60, e58 = .returned (.bool b60) /\
  BIf (!b60) (
  K (.bool false) w59) (
  J44 w59))))) /\ (
  ∀ w61 : World, J44 w61 -> ∀ _ _ _ _ _ _ _ _ _ _ _ _ _ _ _ _ _ _ _ _ _ _ _ _ : Value,
  ∃ s86, w61.cell? ⟨r13, 6, none⟩ = some (Slc.v s86) /\
  ∃ (I87 : (Int) -> World -> Prop) (mu88 : (Int) -> World -> Nat), I87 ((0 : Int)) w61 /\ (
  ∀ i89 : Int, ∀ w90 : World, I87 i89 w90 -> ∀ _ _ _ _ _ _ _ _ _ _ _ _ _ _ _ _ _ _ _ _ _ _ _ _ _ _ _ _ _ _ _ _ _ _ _ _ _ _ _ _ _ _ _ _ _ _ _ _ _ _ _ _ _ : Value,
  BIf (decide (i89 < (s86.l : Int))) (
  needSome s86.p fun a144 =>
  0 <= i89 /\ i89 < (s86.l : Int) /\
  ∃ n145 : Int, ∃ t146 : List UInt8, ∃ t147 : List UInt8, ∃ t148 : List UInt8, ∃ n149 : Int, rowAt w90 (Addr.add a144 ((Int.toNat i89) * 5)) 0 [(.int .i64 n145), (aq t146), (aq t147), (aq t148), (.int .i64 n149)] /\
  aK w90 (.cells ⟨[(.int .i64 0), (aq ([] : List UInt8)), (aq ([] : List UInt8)), (aq ([] : List UInt8)), (.int .i64 0)]⟩ 59) fun r150 w151 =>
  aw w151 ⟨r150, 0, none⟩ 5 /\ ∀ w152, w152 = setCells w151 ⟨r150, 0, none⟩ 0 [(.int .i64 n145), (aq t146), (aq t147), (aq t148), (.int .i64 n149)] ->
  ∃ t153 : List UInt8, w152.cell? ⟨r150, 1, none⟩ = some (aq t153) /\
  Calls Tryd.prog du ⟨[(aq t153)]⟩ w152 fun e154 w155 =>
  ∃ b156, e154 = .returned (.bool b156) /\
  ∃ n157, w155.cell? ⟨r150, 0, none⟩ = some (.int .i64 n157) /\
  BIf (decide (n157 = 1)) (
  BIf b156 (
  ∃ t158 : List UInt8, w155.cell? ⟨r150, 2, none⟩ = some (aq t158) /\
  BIf (!(decide ((((List.length t158) : Nat) : Int) <= (64 : Int)))) (
  K (.bool false) w155) (
  inR .i64 (i89 + 1) /\
  (I87 ((i89 + 1)) w155 /\ mu88 ((i89 + 1)) w155 < mu88 i89 w90))) (
  K (.bool false) w155)) (
  BIf (decide (n157 = 2)) (
  BIf (!b156) (
  K (.bool false) w155) (
  inR .i64 (i89 + 1) /\
  (I87 ((i89 + 1)) w155 /\ mu88 ((i89 + 1)) w155 < mu88 i89 w90))) (
  BIf (decide (n157 = 3)) (
  BIf b156 (
  ∃ t159 : List UInt8, w155.cell? ⟨r150, 2, none⟩ = some (aq t159) /\
  BIf (decide ((((List.length t159) : Nat) : Int) <= (64 : Int))) (
  ∃ t160 : List UInt8, w155.cell? ⟨r150, 3, none⟩ = some (aq t160) /\
  BIf (!(decide ((((List.length t160) : Nat) : Int) <= (64 : Int)))) (
  K (.bool false) w155) (
  inR .i64 (i89 + 1) /\
  (I87 ((i89 + 1)) w155 /\ mu88 ((i89 + 1)) w155 < mu88 i89 w90))) (
  K (.bool false) w155)) (
  K (.bool false) w155)) (
  BIf (decide (n157 = 4)) (
  BIf b156 (
  ∃ n161, w155.cell? ⟨r150, 4, none⟩ = some (.int .i64 n161) /\
  BIf (decide (0 <= n161)) (
  ∃ n162, w155.cell? ⟨r150, 4, none⟩ = some (.int .i64 n162) /\
  BIf (!(decide (n162 <= 4096))) (
  K (.bool false) w155) (
  inR .i64 (i89 + 1) /\
  (I87 ((i89 + 1)) w155 /\ mu88 ((i89 + 1)) w155 < mu88 i89 w90))) (
  K (.bool false) w155)) (
  K (.bool false) w155)) (
  K (.bool false) w155))))) (
  K (.bool true) w90)))) (
  BIf (decide (n43 = 2)) (
  ∃ n163, w27.cell? ⟨r13, 1, none⟩ = some (.int .i64 n163) /\
  Calls Tryd.prog au ⟨[(.int .i64 n163), (.int .i64 12)]⟩ w27 fun e164 w165 =>
  ∃ b166, e164 = .returned (.bool b166) /\
  BIf b166 (
  ∃ n167, w165.cell? ⟨r13, 3, none⟩ = some (.int .i64 n167) /\
  Calls Tryd.prog au ⟨[(.int .i64 n167), (.int .i64 4)]⟩ w165 fun e168 w169 =>
  ∃ b170, e168 = .returned (.bool b170) /\
  K (.bool b170) w169) (
  K (.bool false) w165)) (
  BIf (decide (n43 = 3)) (
  BIf two26 (
  ∃ n171, w27.cell? ⟨r13, 3, none⟩ = some (.int .i64 n171) /\
  Calls Tryd.prog au ⟨[(.int .i64 n171), (.int .i64 4)]⟩ w27 fun e172 w173 =>
  ∃ b174, e172 = .returned (.bool b174) /\
  BIf b174 (
  ∃ t175 : List UInt8, w173.cell? ⟨r13, 7, none⟩ = some (aq t175) /\
  Calls Tryd.prog du ⟨[(aq t175)]⟩ w173 fun e176 w177 =>
  ∃ b178, e176 = .returned (.bool b178) /\
  K (.bool b178) w177) (
  K (.bool false) w173)) (
  K (.bool false) w27)) (
  BIf (decide (n43 = 4)) (
  K (.bool two26) w27) (
  BIf (decide (n43 = 5)) (
  ∃ n179, w27.cell? ⟨r13, 1, none⟩ = some (.int .i64 n179) /\
  BIf (decide (0 <= n179)) (
  ∃ n180, w27.cell? ⟨r13, 1, none⟩ = some (.int .i64 n180) /\
  BIf (decide (n180 <= 12)) (
  ∃ n181, w27.cell? ⟨r13, 8, none⟩ = some (.int .i64 n181) /\
  BIf (decide (0 <= n181)) (
  ∃ n182, w27.cell? ⟨r13, 8, none⟩ = some (.int .i64 n182) /\
  BIf (decide (n182 <= 4096)) (
  ∃ n183, w27.cell? ⟨r13, 10, none⟩ = some (.int .i64 n183) /\
  Calls Tryd.prog au ⟨[(.int .i64 n183), (.int .i64 64)]⟩ w27 fun e184 w185 =>
  ∃ b186, e184 = .returned (.bool b186) /\
  BIf b186 (
  ∃ n187, w185.cell? ⟨r13, 9, none⟩ = some (.int .i64 n187) /\
  BIf (decide (0 <= n187)) (
  ∃ n188, w185.cell? ⟨r13, 9, none⟩ = some (.int .i64 n188) /\
  ∃ n189, w185.cell? ⟨r13, 10, none⟩ = some (.int .i64 n189) /\
  BIf (decide (n188 < n189)) (
  ∃ s190, w185.cell? ⟨r13, 11, none⟩ = some (Slc.v s190) /\
  K (.bool (decide ((s190.l : Int) <= (256 : Int)))) w185) (
  K (.bool false) w185)) (
  K (.bool false) w185)) (
  K (.bool false) w185)) (
  K (.bool false) w27)) (
  K (.bool false) w27)) (
  K (.bool false) w27)) (
  K (.bool false) w27)) (
  K (.bool false) w27))))))
theorem fr (e1 : Int) (e2 : Int) (e3 : Int) (e4 : Int) (e5 : Int) (e6 : Int) (e7 : Slc) (e8 : List UInt8) (e9 : Int) (e10 : Int) (e11 : Int) (e12 : Slc) {w : World} {R : Ending -> World -> Prop} (h : dW e1 e2 e3 e4 e5 e6 e7 e8 e9 e10 e11 e12 w fun v w' => R (.returned v) w') : Calls Tryd.prog cm ⟨[(.agg ⟨[(.int .i64 e1), (.int .i64 e2), (.int .i64 e3), (.int .i64 e4), (.int .i64 e5), (.int .i64 e6), e7.v, (aq e8), (.int .i64 e9), (.int .i64 e10), (.int .i64 e11), e12.v]⟩)]⟩ w R :=
  ae (ann := (.two .none (.cut [(3, Sh.bool)] (List.range' 7 15) .none (.two (.two .none (.one (.two .none (.two (.cut [] ([2] ++ List.range' 26 23) .none (.two (.two .none (.one (.loop [(52, (Sh.int .i64))] ([2, 5, 6] ++ List.range' 53 50) .none))) .none)) .none)))) .none)))) aj mixed Tryd.func26 (Eq.mp (by kernel_rfl) h)
def eF (pages1 : Slc) (shard2 : Int) (upto3 : Int) (parts4 : Int) (w : World) (K : Value -> World -> Prop) : Prop :=
  aK w (.cells ⟨[(.int .i64 0), (.int .i64 0), (.int .i64 0), (.int .i64 0), (Slc.v ⟨none, 0, 0⟩)]⟩ 36) fun r5 w6 =>
  aK w6 (.cells ⟨[(.int .i64 0), (.int .i64 0), (.int .i64 0), (.int .i64 0), (Slc.v ⟨none, 0, 0⟩)]⟩ 36) fun r7 w8 =>
  aw w8 ⟨r7, 0, none⟩ 5 /\ ∀ w9, w9 = setCells w8 ⟨r7, 0, none⟩ 0 [(.int .i64 upto3), (.int .i64 parts4), (.int .i64 (-1 : Int)), (.int .i64 0), (Slc.v ⟨none, 0, 0⟩)] ->
  aK w9 (.cells ⟨[]⟩ 5) fun r10 w11 =>
  ∃ (I12 : (Slc) -> (Int) -> World -> Prop) (mu13 : (Slc) -> (Int) -> World -> Nat), I12 ((⟨(some ⟨r10, 0, none⟩), 0, 0⟩ : Slc)) ((0 : Int)) w11 /\ (
  ∀ all14 : Slc, ∀ i15 : Int, ∀ w16 : World, I12 all14 i15 w16 -> ∀ _ _ _ _ _ _ _ _ _ _ _ _ _ _ _ _ _ _ _ _ _ _ _ _ _ _ _ _ _ _ _ _ _ _ _ _ _ _ _ _ _ _ _ _ _ _ _ _ _ _ _ _ _ _ _ _ _ _ _ _ _ _ _ _ _ _ _ _ _ _ _ _ _ _ _ _ _ _ _ _ _ _ _ _ _ : Value,
  BIf (decide (i15 < parts4)) (
  ∃ (I102 : (Slc) -> (Bool) -> (Int) -> World -> Prop) (mu103 : (Slc) -> (Bool) -> (Int) -> World -> Nat), I102 (all14) (false) ((0 : Int)) w16 /\ (
  ∀ all104 : Slc, ∀ got105 : Bool, ∀ i106 : Int, ∀ w107 : World, I102 all104 got105 i106 w107 -> ∀ _ _ _ _ _ _ _ _ _ _ _ _ _ _ _ _ _ _ _ _ _ _ _ _ _ _ _ _ _ _ _ _ _ _ _ _ _ _ _ _ _ _ _ _ _ _ _ _ _ _ _ _ _ _ _ _ _ _ _ _ _ _ _ _ _ _ _ _ _ _ _ _ : Value,
  BIf (decide (i106 < (pages1.l : Int))) (
  needSome pages1.p fun a180 =>
  0 <= i106 /\ i106 < (pages1.l : Int) /\
  ∃ n181 : Int, ∃ n182 : Int, ∃ n183 : Int, ∃ n184 : Int, ∃ n185 : Int, ∃ n186 : Int, ∃ n187 : Int, ∃ s188 : Slc, ∃ t189 : List UInt8, ∃ n190 : Int, ∃ n191 : Int, ∃ n192 : Int, ∃ s193 : Slc, ∃ s194 : Slc, ∃ b195 : Bool, rowAt w107 (Addr.add a180 ((Int.toNat i106) * 15)) 0 [(.int .i64 n181), (.int .i64 n182), (.int .i64 n183), (.int .i64 n184), (.int .i64 n185), (.int .i64 n186), (.int .i64 n187), s188.v, (aq t189), (.int .i64 n190), (.int .i64 n191), (.int .i64 n192), s193.v, s194.v, (.bool b195)] /\
  aK w107 (.cells ⟨[(.int .i64 0), (.int .i64 0), (.int .i64 0), (.int .i64 0), (.int .i64 0), (.int .i64 0), (.int .i64 0), (Slc.v ⟨none, 0, 0⟩), (aq ([] : List UInt8)), (.int .i64 0), (.int .i64 0), (.int .i64 0), (Slc.v ⟨none, 0, 0⟩), (Slc.v ⟨none, 0, 0⟩), (.bool false)]⟩ 60) fun r196 w197 =>
  aw w197 ⟨r196, 0, none⟩ 15 /\ ∀ w198, w198 = setCells w197 ⟨r196, 0, none⟩ 0 [(.int .i64 n181), (.int .i64 n182), (.int .i64 n183), (.int .i64 n184), (.int .i64 n185), (.int .i64 n186), (.int .i64 n187), s188.v, (aq t189), (.int .i64 n190), (.int .i64 n191), (.int .i64 n192), s193.v, s194.v, (.bool b195)] ->
  ∃ n199 : Int, ∃ n200 : Int, ∃ n201 : Int, ∃ n202 : Int, ∃ n203 : Int, ∃ n204 : Int, ∃ s205 : Slc, ∃ t206 : List UInt8, ∃ n207 : Int, ∃ n208 : Int, ∃ n209 : Int, ∃ s210 : Slc, rowAt w198 ⟨r196, 1, none⟩ 0 [(.int .i64 n199), (.int .i64 n200), (.int .i64 n201), (.int .i64 n202), (.int .i64 n203), (.int .i64 n204), s205.v, (aq t206), (.int .i64 n207), (.int .i64 n208), (.int .i64 n209), s210.v] /\
  aK w198 (.cells ⟨[(.int .i64 0), (.int .i64 0), (.int .i64 0), (.int .i64 0), (.int .i64 0), (.int .i64 0), (Slc.v ⟨none, 0, 0⟩), (aq ([] : List UInt8)), (.int .i64 0), (.int .i64 0), (.int .i64 0), (Slc.v ⟨none, 0, 0⟩)]⟩ 50) fun r211 w212 =>
  aw w212 ⟨r211, 0, none⟩ 12 /\ ∀ w213, w213 = setCells w212 ⟨r211, 0, none⟩ 0 [(.int .i64 n199), (.int .i64 n200), (.int .i64 n201), (.int .i64 n202), (.int .i64 n203), (.int .i64 n204), s205.v, (aq t206), (.int .i64 n207), (.int .i64 n208), (.int .i64 n209), s210.v] ->
  ∃ J214 : World -> Prop,
  (
  BIf got105 (
  inR .i64 (i106 + 1) /\
  (I102 (all104) (got105) ((i106 + 1)) w213 /\ mu103 (all104) (got105) ((i106 + 1)) w213 < mu103 all104 got105 i106 w107)) (
  ∃ b215, w213.cell? ⟨r196, 14, none⟩ = some (.bool b215) /\
  BIf b215 (
  inR .i64 (i106 + 1) /\
  (I102 (all104) (got105) ((i106 + 1)) w213 /\ mu103 (all104) (got105) ((i106 + 1)) w213 < mu103 all104 got105 i106 w107)) (
  ∃ n216, w213.cell? ⟨r211, 0, none⟩ = some (.int .i64 n216) /\
  BIf (!decide (n216 = 5)) (
  inR .i64 (i106 + 1) /\
  (I102 (all104) (got105) ((i106 + 1)) w213 /\ mu103 (all104) (got105) ((i106 + 1)) w213 < mu103 all104 got105 i106 w107)) (
  ∃ n217 : Int, ∃ n218 : Int, ∃ n219 : Int, ∃ n220 : Int, ∃ n221 : Int, ∃ n222 : Int, ∃ s223 : Slc, ∃ t224 : List UInt8, ∃ n225 : Int, ∃ n226 : Int, ∃ n227 : Int, ∃ s228 : Slc, rowAt w213 ⟨r211, 0, none⟩ 0 [(.int .i64 n217), (.int .i64 n218), (.int .i64 n219), (.int .i64 n220), (.int .i64 n221), (.int .i64 n222), s223.v, (aq t224), (.int .i64 n225), (.int .i64 n226), (.int .i64 n227), s228.v] /\
  Calls Tryd.prog cm ⟨[(.agg ⟨[(.int .i64 n217), (.int .i64 n218), (.int .i64 n219), (.int .i64 n220), (.int .i64 n221), (.int .i64 n222), s223.v, (aq t224), (.int .i64 n225), (.int .i64 n226), (.int .i64 n227), s228.v]⟩)]⟩ w213 fun e229 w230 =>
  ∃ b231, e229 = .returned (.bool b231) /\
  BIf (!b231) (
  inR .i64 (i106 + 1) /\
  (I102 (all104) (got105) ((i106 + 1)) w230 /\ mu103 (all104) (got105) ((i106 + 1)) w230 < mu103 all104 got105 i106 w107)) (
  ∃ n232, w230.cell? ⟨r211, 1, none⟩ = some (.int .i64 n232) /\
  BIf (!decide (n232 = shard2)) (
  inR .i64 (i106 + 1) /\
  (I102 (all104) (got105) ((i106 + 1)) w230 /\ mu103 (all104) (got105) ((i106 + 1)) w230 < mu103 all104 got105 i106 w107)) (
  ∃ n233, w230.cell? ⟨r211, 8, none⟩ = some (.int .i64 n233) /\
  BIf (!decide (n233 = upto3)) (
  inR .i64 (i106 + 1) /\
  (I102 (all104) (got105) ((i106 + 1)) w230 /\ mu103 (all104) (got105) ((i106 + 1)) w230 < mu103 all104 got105 i106 w107)) (
  ∃ n234, w230.cell? ⟨r211, 10, none⟩ = some (.int .i64 n234) /\
  BIf (!decide (n234 = parts4)) (
  inR .i64 (i106 + 1) /\
  (I102 (all104) (got105) ((i106 + 1)) w230 /\ mu103 (all104) (got105) ((i106 + 1)) w230 < mu103 all104 got105 i106 w107)) (
  ∃ n235, w230.cell? ⟨r211, 9, none⟩ = some (.int .i64 n235) /\
  BIf (!decide (n235 = i15)) (
  inR .i64 (i106 + 1) /\
  (I102 (all104) (got105) ((i106 + 1)) w230 /\ mu103 (all104) (got105) ((i106 + 1)) w230 < mu103 all104 got105 i106 w107)) (
  J214 w230))))))))) /\ (
  ∀ w236 : World, J214 w236 -> ∀ _ _ _ _ _ _ _ _ _ _ _ _ _ _ _ _ _ _ _ _ _ _ _ _ _ _ _ _ _ _ _ _ _ _ _ _ _ _ _ : Value,
  ∃ s276, w236.cell? ⟨r211, 11, none⟩ = some (Slc.v s276) /\
  bA 1 5 [(.int .u8 0)] w236 all104 (.slc s276) fun s277 w278 =>
  ∃ n279, w278.cell? ⟨r7, 2, none⟩ = some (.int .i64 n279) /\
  BIf (decide (n279 < 0)) (
  ∃ n280, w278.cell? ⟨r196, 0, none⟩ = some (.int .i64 n280) /\
  aw w278 ⟨r7, 2, none⟩ 1 /\ ∀ w281, w281 = w278.setCell ⟨r7, 2, none⟩ (.int .i64 n280) ->
  ∃ n282, w281.cell? ⟨r196, 0, none⟩ = some (.int .i64 n282) /\
  ∃ n283, w281.cell? ⟨r7, 3, none⟩ = some (.int .i64 n283) /\
  BIf (decide (n283 < n282)) (
  ∃ n284, w281.cell? ⟨r196, 0, none⟩ = some (.int .i64 n284) /\
  aw w281 ⟨r7, 3, none⟩ 1 /\ ∀ w285, w285 = w281.setCell ⟨r7, 3, none⟩ (.int .i64 n284) ->
  inR .i64 (i106 + 1) /\
  (I102 (s277) (true) ((i106 + 1)) w285 /\ mu103 (s277) (true) ((i106 + 1)) w285 < mu103 all104 got105 i106 w107)) (
  inR .i64 (i106 + 1) /\
  (I102 (s277) (true) ((i106 + 1)) w281 /\ mu103 (s277) (true) ((i106 + 1)) w281 < mu103 all104 got105 i106 w107))) (
  ∃ n286, w278.cell? ⟨r196, 0, none⟩ = some (.int .i64 n286) /\
  ∃ n287, w278.cell? ⟨r7, 2, none⟩ = some (.int .i64 n287) /\
  BIf (decide (n286 < n287)) (
  ∃ n288, w278.cell? ⟨r196, 0, none⟩ = some (.int .i64 n288) /\
  aw w278 ⟨r7, 2, none⟩ 1 /\ ∀ w289, w289 = w278.setCell ⟨r7, 2, none⟩ (.int .i64 n288) ->
  ∃ n290, w289.cell? ⟨r196, 0, none⟩ = some (.int .i64 n290) /\
  ∃ n291, w289.cell? ⟨r7, 3, none⟩ = some (.int .i64 n291) /\
  BIf (decide (n291 < n290)) (
  ∃ n292, w289.cell? ⟨r196, 0, none⟩ = some (.int .i64 n292) /\
  aw w289 ⟨r7, 3, none⟩ 1 /\ ∀ w293, w293 = w289.setCell ⟨r7, 3, none⟩ (.int .i64 n292) ->
  inR .i64 (i106 + 1) /\
  (I102 (s277) (true) ((i106 + 1)) w293 /\ mu103 (s277) (true) ((i106 + 1)) w293 < mu103 all104 got105 i106 w107)) (
  inR .i64 (i106 + 1) /\
  (I102 (s277) (true) ((i106 + 1)) w289 /\ mu103 (s277) (true) ((i106 + 1)) w289 < mu103 all104 got105 i106 w107))) (
  ∃ n294, w278.cell? ⟨r196, 0, none⟩ = some (.int .i64 n294) /\
  ∃ n295, w278.cell? ⟨r7, 3, none⟩ = some (.int .i64 n295) /\
  BIf (decide (n295 < n294)) (
  ∃ n296, w278.cell? ⟨r196, 0, none⟩ = some (.int .i64 n296) /\
  aw w278 ⟨r7, 3, none⟩ 1 /\ ∀ w297, w297 = w278.setCell ⟨r7, 3, none⟩ (.int .i64 n296) ->
  inR .i64 (i106 + 1) /\
  (I102 (s277) (true) ((i106 + 1)) w297 /\ mu103 (s277) (true) ((i106 + 1)) w297 < mu103 all104 got105 i106 w107)) (
  inR .i64 (i106 + 1) /\
  (I102 (s277) (true) ((i106 + 1)) w278 /\ mu103 (s277) (true) ((i106 + 1)) w278 < mu103 all104 got105 i106 w107)))))) (
  BIf (!got105) (
  ∃ n298 : Int, ∃ n299 : Int, ∃ n300 : Int, ∃ n301 : Int, ∃ s302 : Slc, rowAt w107 ⟨r7, 0, none⟩ 0 [(.int .i64 n298), (.int .i64 n299), (.int .i64 n300), (.int .i64 n301), s302.v] /\
  aw w107 ⟨r5, 0, none⟩ 5 /\ ∀ w303, w303 = setCells w107 ⟨r5, 0, none⟩ 0 [(.int .i64 n298), (.int .i64 n299), (.int .i64 n300), (.int .i64 n301), s302.v] ->
  ∃ n304 : Int, ∃ n305 : Int, ∃ n306 : Int, ∃ n307 : Int, ∃ s308 : Slc, rowAt w303 ⟨r5, 0, none⟩ 0 [(.int .i64 n304), (.int .i64 n305), (.int .i64 n306), (.int .i64 n307), s308.v] /\
  K (.tuple ⟨[(.agg ⟨[(.int .i64 n304), (.int .i64 n305), (.int .i64 n306), (.int .i64 n307), s308.v]⟩), (.bool false)]⟩) w303) (
  inR .i64 (i15 + 1) /\
  (I12 (all104) ((i15 + 1)) w107 /\ mu13 (all104) ((i15 + 1)) w107 < mu13 all14 i15 w16))))) (
  BIf (decide ((all14.l : Int) < (4 : Int))) (
  ∃ n309 : Int, ∃ n310 : Int, ∃ n311 : Int, ∃ n312 : Int, ∃ s313 : Slc, rowAt w16.drew ⟨r7, 0, none⟩ 0 [(.int .i64 n309), (.int .i64 n310), (.int .i64 n311), (.int .i64 n312), s313.v] /\
  aw w16.drew ⟨r5, 0, none⟩ 5 /\ ∀ w314, w314 = setCells w16.drew ⟨r5, 0, none⟩ 0 [(.int .i64 n309), (.int .i64 n310), (.int .i64 n311), (.int .i64 n312), s313.v] ->
  ∃ n315 : Int, ∃ n316 : Int, ∃ n317 : Int, ∃ n318 : Int, ∃ s319 : Slc, rowAt w314 ⟨r5, 0, none⟩ 0 [(.int .i64 n315), (.int .i64 n316), (.int .i64 n317), (.int .i64 n318), s319.v] /\
  K (.tuple ⟨[(.agg ⟨[(.int .i64 n315), (.int .i64 n316), (.int .i64 n317), (.int .i64 n318), s319.v]⟩), (.bool false)]⟩) w314) (
  0 <= (4 : Int) /\ (4 : Int) <= (all14.l : Int) /\ (all14.l : Int) <= (all14.c : Int) /\ (all14.c : Int) <= (all14.c : Int) /\
  ∃ t321 : List UInt8, ar w16.drew all14 t321 /\
  Calls Tryd.prog bW ⟨[(Slc.v (Slc.sub all14 1 4 all14.l all14.c))]⟩ w16.drew fun e322 w323 =>
  ∃ s324, e322 = .returned (Slc.v s324) /\
  (ckBx w323 all14 t321) /\
  ∃ t326 : List UInt8, ar w323 s324 t326 /\
  BIf (!decide (t326 = t321)) (
  ∃ n327 : Int, ∃ n328 : Int, ∃ n329 : Int, ∃ n330 : Int, ∃ s331 : Slc, rowAt w323 ⟨r7, 0, none⟩ 0 [(.int .i64 n327), (.int .i64 n328), (.int .i64 n329), (.int .i64 n330), s331.v] /\
  aw w323 ⟨r5, 0, none⟩ 5 /\ ∀ w332, w332 = setCells w323 ⟨r5, 0, none⟩ 0 [(.int .i64 n327), (.int .i64 n328), (.int .i64 n329), (.int .i64 n330), s331.v] ->
  ∃ n333 : Int, ∃ n334 : Int, ∃ n335 : Int, ∃ n336 : Int, ∃ s337 : Slc, rowAt w332 ⟨r5, 0, none⟩ 0 [(.int .i64 n333), (.int .i64 n334), (.int .i64 n335), (.int .i64 n336), s337.v] /\
  K (.tuple ⟨[(.agg ⟨[(.int .i64 n333), (.int .i64 n334), (.int .i64 n335), (.int .i64 n336), s337.v]⟩), (.bool false)]⟩) w332) (
  0 <= (4 : Int) /\ (4 : Int) <= (all14.l : Int) /\ (all14.l : Int) <= (all14.c : Int) /\ (all14.c : Int) <= (all14.c : Int) /\
  aw w323 ⟨r7, 4, none⟩ 1 /\ ∀ w339, w339 = w323.setCell ⟨r7, 4, none⟩ (Slc.v (Slc.sub all14 1 4 all14.l all14.c)) ->
  ∃ n340 : Int, ∃ n341 : Int, ∃ n342 : Int, ∃ n343 : Int, ∃ s344 : Slc, rowAt w339 ⟨r7, 0, none⟩ 0 [(.int .i64 n340), (.int .i64 n341), (.int .i64 n342), (.int .i64 n343), s344.v] /\
  aw w339 ⟨r5, 0, none⟩ 5 /\ ∀ w345, w345 = setCells w339 ⟨r5, 0, none⟩ 0 [(.int .i64 n340), (.int .i64 n341), (.int .i64 n342), (.int .i64 n343), s344.v] ->
  ∃ n346 : Int, ∃ n347 : Int, ∃ n348 : Int, ∃ n349 : Int, ∃ s350 : Slc, rowAt w345 ⟨r5, 0, none⟩ 0 [(.int .i64 n346), (.int .i64 n347), (.int .i64 n348), (.int .i64 n349), s350.v] /\
  K (.tuple ⟨[(.agg ⟨[(.int .i64 n346), (.int .i64 n347), (.int .i64 n348), (.int .i64 n349), s350.v]⟩), (.bool true)]⟩) w345))))
theorem fZ (pages1 : Slc) (shard2 : Int) (upto3 : Int) (parts4 : Int) {w : World} {R : Ending -> World -> Prop} (h : eF pages1 shard2 upto3 parts4 w fun v w' => R (.returned v) w') : Calls Tryd.prog cF ⟨[pages1.v, (.int .i64 shard2), (.int .i64 upto3), (.int .i64 parts4)]⟩ w R :=
  ae (ann := (.two .none (.two .none (.two .none (.two (.two .none (.one (.loop [(11, Sh.slc), (12, (Sh.int .i64))] ([9, 13, 15, 16] ++ List.range' 21 81) (.two .none (.two (.one (.two .none (.two (.two .none (.one (.loop [(11, Sh.slc), (13, Sh.bool), (28, (Sh.int .i64))] ([15, 16] ++ List.range' 29 70) (.two .none (.two .none (.two (.one (.two .none (.two .none (.cut [] (List.range' 34 39) .none .none)))) .none)))))) .none))) .none))))) .none))))) aj mixed Tryd.func17 (Eq.mp (by kernel_rfl) h)
def ek (pages1 : Slc) (shard2 : Int) (w : World) (K : Value -> World -> Prop) : Prop :=
  aK w (.cells ⟨[]⟩ 36) fun r3 w4 =>
  ∃ (I5 : (Slc) -> (Int) -> World -> Prop) (mu6 : (Slc) -> (Int) -> World -> Nat), I5 ((⟨(some ⟨r3, 0, none⟩), 0, 0⟩ : Slc)) ((0 : Int)) w4 /\ (
  ∀ out7 : Slc, ∀ upto8 : Int, ∀ w9 : World, I5 out7 upto8 w9 -> ∀ _ _ _ _ _ _ _ _ _ _ _ _ _ _ _ _ _ _ _ _ _ _ _ _ _ _ _ _ _ _ _ _ _ _ _ _ _ _ _ _ _ _ _ _ _ _ _ _ _ _ _ _ _ _ _ _ _ : Value,
  BIf (decide (upto8 <= 4096)) (
  ∃ (I67 : (Bool) -> (Int) -> World -> Prop) (mu68 : (Bool) -> (Int) -> World -> Nat), I67 (false) ((0 : Int)) w9 /\ (
  ∀ some69 : Bool, ∀ i70 : Int, ∀ w71 : World, I67 some69 i70 w71 -> ∀ _ _ _ _ _ _ _ _ _ _ _ _ _ _ _ _ _ _ _ _ _ _ _ _ _ _ : Value,
  BIf (decide (i70 < (pages1.l : Int))) (
  needSome pages1.p fun a98 =>
  0 <= i70 /\ i70 < (pages1.l : Int) /\
  ∃ n99 : Int, ∃ n100 : Int, ∃ n101 : Int, ∃ n102 : Int, ∃ n103 : Int, ∃ n104 : Int, ∃ n105 : Int, ∃ s106 : Slc, ∃ t107 : List UInt8, ∃ n108 : Int, ∃ n109 : Int, ∃ n110 : Int, ∃ s111 : Slc, ∃ s112 : Slc, ∃ b113 : Bool, rowAt w71 (Addr.add a98 ((Int.toNat i70) * 15)) 0 [(.int .i64 n99), (.int .i64 n100), (.int .i64 n101), (.int .i64 n102), (.int .i64 n103), (.int .i64 n104), (.int .i64 n105), s106.v, (aq t107), (.int .i64 n108), (.int .i64 n109), (.int .i64 n110), s111.v, s112.v, (.bool b113)] /\
  aK w71 (.cells ⟨[(.int .i64 0), (.int .i64 0), (.int .i64 0), (.int .i64 0), (.int .i64 0), (.int .i64 0), (.int .i64 0), (Slc.v ⟨none, 0, 0⟩), (aq ([] : List UInt8)), (.int .i64 0), (.int .i64 0), (.int .i64 0), (Slc.v ⟨none, 0, 0⟩), (Slc.v ⟨none, 0, 0⟩), (.bool false)]⟩ 60) fun r114 w115 =>
  aw w115 ⟨r114, 0, none⟩ 15 /\ ∀ w116, w116 = setCells w115 ⟨r114, 0, none⟩ 0 [(.int .i64 n99), (.int .i64 n100), (.int .i64 n101), (.int .i64 n102), (.int .i64 n103), (.int .i64 n104), (.int .i64 n105), s106.v, (aq t107), (.int .i64 n108), (.int .i64 n109), (.int .i64 n110), s111.v, s112.v, (.bool b113)] ->
  BIf some69 (
  inR .i64 (i70 + 1) /\
  (I67 (true) ((i70 + 1)) w116 /\ mu68 (true) ((i70 + 1)) w116 < mu68 some69 i70 w71)) (
  ∃ n117, w116.cell? ⟨r114, 1, none⟩ = some (.int .i64 n117) /\
  BIf (decide (n117 = 5)) (
  ∃ n118, w116.cell? ⟨r114, 9, none⟩ = some (.int .i64 n118) /\
  BIf (decide (n118 = upto8)) (
  ∃ n119, w116.cell? ⟨r114, 2, none⟩ = some (.int .i64 n119) /\
  inR .i64 (i70 + 1) /\
  (I67 ((decide (n119 = shard2))) ((i70 + 1)) w116 /\ mu68 ((decide (n119 = shard2))) ((i70 + 1)) w116 < mu68 some69 i70 w71)) (
  inR .i64 (i70 + 1) /\
  (I67 (false) ((i70 + 1)) w116 /\ mu68 (false) ((i70 + 1)) w116 < mu68 some69 i70 w71))) (
  inR .i64 (i70 + 1) /\
  (I67 (false) ((i70 + 1)) w116 /\ mu68 (false) ((i70 + 1)) w116 < mu68 some69 i70 w71)))) (
  ∃ (I120 : (Slc) -> (Int) -> World -> Prop) (mu121 : (Slc) -> (Int) -> World -> Nat), I120 (out7) ((1 : Int)) w71 /\ (
  ∀ out122 : Slc, ∀ parts123 : Int, ∀ w124 : World, I120 out122 parts123 w124 -> ∀ _ _ _ _ _ _ _ _ _ _ _ _ _ _ _ _ _ _ _ _ _ _ : Value,
  ∃ J147 : World -> Prop,
  (
  BIf (decide (parts123 <= 64)) (
  BIf some69 (
  J147 w124) (
  inR .i64 (upto8 + 1) /\
  (I5 (out122) ((upto8 + 1)) w124 /\ mu6 (out122) ((upto8 + 1)) w124 < mu6 out7 upto8 w9))) (
  inR .i64 (upto8 + 1) /\
  (I5 (out122) ((upto8 + 1)) w124 /\ mu6 (out122) ((upto8 + 1)) w124 < mu6 out7 upto8 w9))) /\ (
  ∀ w148 : World, J147 w148 -> ∀ _ _ _ _ _ : Value,
  Calls Tryd.prog cF ⟨[pages1.v, (.int .i64 shard2), (.int .i64 upto8), (.int .i64 parts123)]⟩ w148 fun e154 w155 =>
  ∃ x156 : Int, ∃ x157 : Int, ∃ x158 : Int, ∃ x159 : Int, ∃ x160 : Slc, ∃ b161, e154 = .returned (.tuple ⟨[(.agg ⟨[(.int .i64 x156), (.int .i64 x157), (.int .i64 x158), (.int .i64 x159), x160.v]⟩), (.bool b161)]⟩) /\
  aK w155 (.cells ⟨[(.int .i64 0), (.int .i64 0), (.int .i64 0), (.int .i64 0), (Slc.v ⟨none, 0, 0⟩)]⟩ 36) fun r162 w163 =>
  aw w163 ⟨r162, 0, none⟩ 5 /\ ∀ w164, w164 = setCells w163 ⟨r162, 0, none⟩ 0 [(.int .i64 x156), (.int .i64 x157), (.int .i64 x158), (.int .i64 x159), x160.v] ->
  BIf b161 (
  ∃ n165 : Int, ∃ n166 : Int, ∃ n167 : Int, ∃ n168 : Int, ∃ s169 : Slc, rowAt w164 ⟨r162, 0, none⟩ 0 [(.int .i64 n165), (.int .i64 n166), (.int .i64 n167), (.int .i64 n168), s169.v] /\
  aK w164 (.cells ⟨[(.int .i64 n165), (.int .i64 n166), (.int .i64 n167), (.int .i64 n168), s169.v]⟩ 36) fun r170 w171 =>
  bA 5 36 [(.int .i64 0), (.int .i64 0), (.int .i64 0), (.int .i64 0), (Slc.v ⟨none, 0, 0⟩)] w171 out122 (.slc (⟨(some ⟨r170, 0, none⟩), 1, 1⟩ : Slc)) fun s172 w173 =>
  inR .i64 (parts123 + 1) /\
  (I120 (s172) ((parts123 + 1)) w173 /\ mu121 (s172) ((parts123 + 1)) w173 < mu121 out122 parts123 w124)) (
  inR .i64 (parts123 + 1) /\
  (I120 (out122) ((parts123 + 1)) w164 /\ mu121 (out122) ((parts123 + 1)) w164 < mu121 out122 parts123 w124))))))) (
  K out7.v w9))
theorem fL (pages1 : Slc) (shard2 : Int) {w : World} {R : Ending -> World -> Prop} (h : ek pages1 shard2 w fun v w' => R (.returned v) w') : Calls Tryd.prog bD ⟨[pages1.v, (.int .i64 shard2)]⟩ w R :=
  ae (ann := (.two .none (.two .none (.two (.two .none (.one (.loop [(5, Sh.slc), (6, (Sh.int .i64))] ([7, 9, 10, 11, 12] ++ List.range' 14 52) (.two .none (.two (.one (.two .none (.two (.two .none (.one (.loop [(7, Sh.bool), (20, (Sh.int .i64))] ([9] ++ List.range' 21 25) .none))) (.two .none (.one (.loop [(5, Sh.slc), (10, (Sh.int .i64))] ([11, 12] ++ List.range' 46 20) (.cut [] [46, 47, 48, 49, 50] .none .none))))))) .none))))) .none)))) aj mixed Tryd.func8 (Eq.mp (by kernel_rfl) h)
def dz (pages1 : Slc) (shard2 : Int) (upto3 : Int) (w : World) (K : Value -> World -> Prop) : Prop :=
  aK w (.cells ⟨[(.int .i64 0), (.int .i64 0), (.int .i64 0), (.int .i64 0), (Slc.v ⟨none, 0, 0⟩)]⟩ 36) fun r4 w5 =>
  Calls Tryd.prog bD ⟨[pages1.v, (.int .i64 shard2)]⟩ w5 fun e6 w7 =>
  ∃ s8, e6 = .returned (Slc.v s8) /\
  inR .i64 ((s8.l : Int) - (1 : Int)) /\
  ∃ (I9 : (Int) -> World -> Prop) (mu10 : (Int) -> World -> Nat), I9 (((s8.l : Int) - (1 : Int))) w7 /\ (
  ∀ i11 : Int, ∀ w12 : World, I9 i11 w12 -> ∀ _ _ _ _ _ _ _ _ _ _ _ _ _ _ _ _ : Value,
  BIf (decide (0 <= i11)) (
  needSome s8.p fun a29 =>
  0 <= i11 /\ i11 < (s8.l : Int) /\
  ∃ n30, w12.cell? (Addr.add a29 ((Int.toNat i11) * 5)) = some (.int .i64 n30) /\
  BIf (decide (n30 <= upto3)) (
  needSome s8.p fun a31 =>
  0 <= i11 /\ i11 < (s8.l : Int) /\
  ∃ n32 : Int, ∃ n33 : Int, ∃ n34 : Int, ∃ n35 : Int, ∃ s36 : Slc, rowAt w12 (Addr.add a31 ((Int.toNat i11) * 5)) 0 [(.int .i64 n32), (.int .i64 n33), (.int .i64 n34), (.int .i64 n35), s36.v] /\
  aw w12 ⟨r4, 0, none⟩ 5 /\ ∀ w37, w37 = setCells w12 ⟨r4, 0, none⟩ 0 [(.int .i64 n32), (.int .i64 n33), (.int .i64 n34), (.int .i64 n35), s36.v] ->
  ∃ n38 : Int, ∃ n39 : Int, ∃ n40 : Int, ∃ n41 : Int, ∃ s42 : Slc, rowAt w37 ⟨r4, 0, none⟩ 0 [(.int .i64 n38), (.int .i64 n39), (.int .i64 n40), (.int .i64 n41), s42.v] /\
  K (.tuple ⟨[(.agg ⟨[(.int .i64 n38), (.int .i64 n39), (.int .i64 n40), (.int .i64 n41), s42.v]⟩), (.bool true)]⟩) w37) (
  inR .i64 (i11 - 1) /\
  (I9 ((i11 - 1)) w12 /\ mu10 ((i11 - 1)) w12 < mu10 i11 w12))) (
  aw w12 ⟨r4, 0, none⟩ 5 /\ ∀ w43, w43 = setCells w12 ⟨r4, 0, none⟩ 0 [(.int .i64 0), (.int .i64 0), (.int .i64 0), (.int .i64 0), (Slc.v ⟨none, 0, 0⟩)] ->
  ∃ n44 : Int, ∃ n45 : Int, ∃ n46 : Int, ∃ n47 : Int, ∃ s48 : Slc, rowAt w43 ⟨r4, 0, none⟩ 0 [(.int .i64 n44), (.int .i64 n45), (.int .i64 n46), (.int .i64 n47), s48.v] /\
  K (.tuple ⟨[(.agg ⟨[(.int .i64 n44), (.int .i64 n45), (.int .i64 n46), (.int .i64 n47), s48.v]⟩), (.bool false)]⟩) w43))
theorem ff (pages1 : Slc) (shard2 : Int) (upto3 : Int) {w : World} {R : Ending -> World -> Prop} (h : dz pages1 shard2 upto3 w fun v w' => R (.returned v) w') : Calls Tryd.prog bT ⟨[pages1.v, (.int .i64 shard2), (.int .i64 upto3)]⟩ w R :=
  ae (ann := (.two .none (.two .none (.two (.two .none (.one (.loop [(9, (Sh.int .i64))] ([7] ++ List.range' 16 15) .none))) .none)))) aj mixed Tryd.func11 (Eq.mp (by kernel_rfl) h)
end Go.D

