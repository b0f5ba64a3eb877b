/-
  WHAT IS PROVED: verification conditions of functions of this program, each with its soundness. No further conditions.
-/
import Derived.Test.YtfnibbccnbmkoaaDoorBase
set_option linter.unusedSimpArgs false
set_option maxRecDepth 100000
set_option linter.unusedVariables false
namespace Go.D
open Go Go.Proofs
def aL (data1 : Slc) (a2 : Int) (b3 : Int) (w : World) (K : Value -> World -> Prop) : Prop :=
  inR .i64 (a2 + 1) /\
  ∃ (I4 : (Int) -> (Int) -> World -> Prop) (mu5 : (Int) -> (Int) -> World -> Nat), I4 ((a2 + 1)) ((0 : Int)) w /\ (
  ∀ i6 : Int, ∀ j7 : Int, ∀ w8 : World, I4 i6 j7 w8 -> ∀ _ _ _ _ _ _ _ _ _ _ _ _ _ _ _ _ _ _ _ _ _ _ _ _ _ _ _ _ _ _ _ _ _ _ _ _ _ _ _ _ _ _ _ _ _ _ _ _ _ _ _ _ _ _ _ _ _ _ _ _ _ _ _ _ _ _ _ _ _ _ _ _ _ _ _ _ _ _ _ _ _ _ _ _ _ _ _ _ _ _ _ _ _ _ _ _ _ _ _ _ _ _ _ _ _ _ _ _ _ _ _ _ _ _ _ _ _ _ _ _ _ _ _ _ _ _ _ _ _ : Value,
  BIf (decide (j7 < 5)) (
  ∃ J138 : (Int) -> World -> Prop,
  (
  ∃ (I139 : (Int) -> World -> Prop) (mu140 : (Int) -> World -> Nat), I139 (i6) w8 /\ (
  ∀ i141 : Int, ∀ w142 : World, I139 i141 w142 -> ∀ _ _ _ _ _ _ _ _ _ _ _ _ _ _ _ _ _ _ _ _ : Value,
  BIf (decide (i141 < b3)) (
  needSome data1.p fun a163 =>
  0 <= i141 /\ i141 < (data1.l : Int) /\
  ∃ n164 : Int, ∃ n165 : Int, ∃ n166 : Int, ∃ n167 : Int, ∃ s168 : Slc, rowAt w142.drew (Addr.add a163 ((Int.toNat i141) * 5)) 0 [(.int .i64 n164), (.int .i64 n165), (.int .i64 n166), (.int .i64 n167), s168.v] /\
  inR .i64 (i141 - 1) /\
  needSome data1.p fun a169 =>
  0 <= (i141 - 1) /\ (i141 - 1) < (data1.l : Int) /\
  ∃ n170 : Int, ∃ n171 : Int, ∃ n172 : Int, ∃ n173 : Int, ∃ s174 : Slc, rowAt w142.drew (Addr.add a169 ((Int.toNat (i141 - 1)) * 5)) 0 [(.int .i64 n170), (.int .i64 n171), (.int .i64 n172), (.int .i64 n173), s174.v] /\
  Calls Tryd.prog ak ⟨[(.agg ⟨[(.int .i64 n164), (.int .i64 n165), (.int .i64 n166), (.int .i64 n167), s168.v]⟩), (.agg ⟨[(.int .i64 n170), (.int .i64 n171), (.int .i64 n172), (.int .i64 n173), s174.v]⟩)]⟩ w142.drew fun e175 w176 =>
  ∃ n177, e175 = .returned (.int .i64 n177) /\
  BIf (!(decide (n177 < 0))) (
  inR .i64 (i141 + 1) /\
  (I139 ((i141 + 1)) w176 /\ mu140 ((i141 + 1)) w176 < mu140 i141 w142)) (
  J138 (i141) w176)) (
  J138 (i141) w142.drew))) /\ (
  ∀ i178 : Int, ∀ w179 : World, J138 i178 w179 -> ∀ _ _ _ _ _ _ _ _ _ _ _ _ _ _ _ _ _ _ _ _ : Value,
  BIf (decide (i178 = b3)) (
  K (.bool true) w179) (
  inR .i64 (b3 - a2) /\
  BIf (decide ((b3 - a2) < (50 : Int))) (
  K (.bool false) w179) (
  inR .i64 (i178 - 1) /\
  inR .i64 (i178 - 1) /\
  needSome data1.p fun a200 =>
  0 <= (i178 - 1) /\ (i178 - 1) < (data1.l : Int) /\
  ∃ n201 : Int, ∃ n202 : Int, ∃ n203 : Int, ∃ n204 : Int, ∃ s205 : Slc, rowAt w179.drew (Addr.add a200 ((Int.toNat (i178 - 1)) * 5)) 0 [(.int .i64 n201), (.int .i64 n202), (.int .i64 n203), (.int .i64 n204), s205.v] /\
  needSome data1.p fun a206 =>
  0 <= i178 /\ i178 < (data1.l : Int) /\
  ∃ n207 : Int, ∃ n208 : Int, ∃ n209 : Int, ∃ n210 : Int, ∃ s211 : Slc, rowAt w179.drew (Addr.add a206 ((Int.toNat i178) * 5)) 0 [(.int .i64 n207), (.int .i64 n208), (.int .i64 n209), (.int .i64 n210), s211.v] /\
  needSome data1.p fun a212 =>
  0 <= i178 /\ i178 < (data1.l : Int) /\
  aw w179.drew (Addr.add a212 ((Int.toNat i178) * 5)) 5 /\ ∀ w213, w213 = setCells w179.drew (Addr.add a212 ((Int.toNat i178) * 5)) 0 [(.int .i64 n201), (.int .i64 n202), (.int .i64 n203), (.int .i64 n204), s205.v] ->
  needSome data1.p fun a214 =>
  0 <= (i178 - 1) /\ (i178 - 1) < (data1.l : Int) /\
  aw w213 (Addr.add a214 ((Int.toNat (i178 - 1)) * 5)) 5 /\ ∀ w215, w215 = setCells w213 (Addr.add a214 ((Int.toNat (i178 - 1)) * 5)) 0 [(.int .i64 n207), (.int .i64 n208), (.int .i64 n209), (.int .i64 n210), s211.v] ->
  ∃ J216 : World -> Prop,
  (
  inR .i64 (i178 - a2) /\
  BIf (decide ((2 : Int) <= (i178 - a2))) (
  inR .i64 (i178 - 1) /\
  ∃ (I217 : (Int) -> World -> Prop) (mu218 : (Int) -> World -> Nat), I217 ((i178 - 1)) w215 /\ (
  ∀ j219 : Int, ∀ w220 : World, I217 j219 w220 -> ∀ _ _ _ _ _ _ _ _ _ _ _ _ _ _ _ _ _ _ _ _ _ _ _ _ _ _ _ _ _ _ _ _ _ : Value,
  BIf (decide (1 <= j219)) (
  needSome data1.p fun a254 =>
  0 <= j219 /\ j219 < (data1.l : Int) /\
  ∃ n255 : Int, ∃ n256 : Int, ∃ n257 : Int, ∃ n258 : Int, ∃ s259 : Slc, rowAt w220.drew (Addr.add a254 ((Int.toNat j219) * 5)) 0 [(.int .i64 n255), (.int .i64 n256), (.int .i64 n257), (.int .i64 n258), s259.v] /\
  inR .i64 (j219 - 1) /\
  needSome data1.p fun a260 =>
  0 <= (j219 - 1) /\ (j219 - 1) < (data1.l : Int) /\
  ∃ n261 : Int, ∃ n262 : Int, ∃ n263 : Int, ∃ n264 : Int, ∃ s265 : Slc, rowAt w220.drew (Addr.add a260 ((Int.toNat (j219 - 1)) * 5)) 0 [(.int .i64 n261), (.int .i64 n262), (.int .i64 n263), (.int .i64 n264), s265.v] /\
  Calls Tryd.prog ak ⟨[(.agg ⟨[(.int .i64 n255), (.int .i64 n256), (.int .i64 n257), (.int .i64 n258), s259.v]⟩), (.agg ⟨[(.int .i64 n261), (.int .i64 n262), (.int .i64 n263), (.int .i64 n264), s265.v]⟩)]⟩ w220.drew fun e266 w267 =>
  ∃ n268, e266 = .returned (.int .i64 n268) /\
  BIf (!(decide (n268 < 0))) (
  J216 w267) (
  inR .i64 (j219 - 1) /\
  inR .i64 (j219 - 1) /\
  needSome data1.p fun a269 =>
  0 <= (j219 - 1) /\ (j219 - 1) < (data1.l : Int) /\
  ∃ n270 : Int, ∃ n271 : Int, ∃ n272 : Int, ∃ n273 : Int, ∃ s274 : Slc, rowAt w267.drew (Addr.add a269 ((Int.toNat (j219 - 1)) * 5)) 0 [(.int .i64 n270), (.int .i64 n271), (.int .i64 n272), (.int .i64 n273), s274.v] /\
  needSome data1.p fun a275 =>
  0 <= j219 /\ j219 < (data1.l : Int) /\
  ∃ n276 : Int, ∃ n277 : Int, ∃ n278 : Int, ∃ n279 : Int, ∃ s280 : Slc, rowAt w267.drew (Addr.add a275 ((Int.toNat j219) * 5)) 0 [(.int .i64 n276), (.int .i64 n277), (.int .i64 n278), (.int .i64 n279), s280.v] /\
  needSome data1.p fun a281 =>
  0 <= j219 /\ j219 < (data1.l : Int) /\
  aw w267.drew (Addr.add a281 ((Int.toNat j219) * 5)) 5 /\ ∀ w282, w282 = setCells w267.drew (Addr.add a281 ((Int.toNat j219) * 5)) 0 [(.int .i64 n270), (.int .i64 n271), (.int .i64 n272), (.int .i64 n273), s274.v] ->
  needSome data1.p fun a283 =>
  0 <= (j219 - 1) /\ (j219 - 1) < (data1.l : Int) /\
  aw w282 (Addr.add a283 ((Int.toNat (j219 - 1)) * 5)) 5 /\ ∀ w284, w284 = setCells w282 (Addr.add a283 ((Int.toNat (j219 - 1)) * 5)) 0 [(.int .i64 n276), (.int .i64 n277), (.int .i64 n278), (.int .i64 n279), s280.v] ->
  inR .i64 (j219 - 1) /\
  (I217 ((j219 - 1)) w284 /\ mu218 ((j219 - 1)) w284 < mu218 j219 w220))) (
  J216 w220))) (
  J216 w215)) /\ (
  ∀ w285 : World, J216 w285 -> ∀ _ _ _ _ _ _ _ _ _ _ _ _ _ _ _ _ _ _ _ _ _ _ _ _ _ _ _ _ _ _ _ _ _ _ _ _ _ _ _ _ : Value,
  inR .i64 (b3 - i178) /\
  BIf (decide ((2 : Int) <= (b3 - i178))) (
  inR .i64 (i178 + 1) /\
  ∃ (I326 : (Int) -> World -> Prop) (mu327 : (Int) -> World -> Nat), I326 ((i178 + 1)) w285 /\ (
  ∀ j328 : Int, ∀ w329 : World, I326 j328 w329 -> ∀ _ _ _ _ _ _ _ _ _ _ _ _ _ _ _ _ _ _ _ _ _ _ _ _ _ _ _ _ _ _ _ _ _ _ : Value,
  BIf (decide (j328 < b3)) (
  needSome data1.p fun a364 =>
  0 <= j328 /\ j328 < (data1.l : Int) /\
  ∃ n365 : Int, ∃ n366 : Int, ∃ n367 : Int, ∃ n368 : Int, ∃ s369 : Slc, rowAt w329.drew (Addr.add a364 ((Int.toNat j328) * 5)) 0 [(.int .i64 n365), (.int .i64 n366), (.int .i64 n367), (.int .i64 n368), s369.v] /\
  inR .i64 (j328 - 1) /\
  needSome data1.p fun a370 =>
  0 <= (j328 - 1) /\ (j328 - 1) < (data1.l : Int) /\
  ∃ n371 : Int, ∃ n372 : Int, ∃ n373 : Int, ∃ n374 : Int, ∃ s375 : Slc, rowAt w329.drew (Addr.add a370 ((Int.toNat (j328 - 1)) * 5)) 0 [(.int .i64 n371), (.int .i64 n372), (.int .i64 n373), (.int .i64 n374), s375.v] /\
  Calls Tryd.prog ak ⟨[(.agg ⟨[(.int .i64 n365), (.int .i64 n366), (.int .i64 n367), (.int .i64 n368), s369.v]⟩), (.agg ⟨[(.int .i64 n371), (.int .i64 n372), (.int .i64 n373), (.int .i64 n374), s375.v]⟩)]⟩ w329.drew fun e376 w377 =>
  ∃ n378, e376 = .returned (.int .i64 n378) /\
  BIf (!(decide (n378 < 0))) (
  inR .i64 (j7 + 1) /\
  (I4 (i178) ((j7 + 1)) w377 /\ mu5 (i178) ((j7 + 1)) w377 < mu5 i6 j7 w8)) (
  inR .i64 (j328 - 1) /\
  inR .i64 (j328 - 1) /\
  needSome data1.p fun a379 =>
  0 <= (j328 - 1) /\ (j328 - 1) < (data1.l : Int) /\
  ∃ n380 : Int, ∃ n381 : Int, ∃ n382 : Int, ∃ n383 : Int, ∃ s384 : Slc, rowAt w377.drew (Addr.add a379 ((Int.toNat (j328 - 1)) * 5)) 0 [(.int .i64 n380), (.int .i64 n381), (.int .i64 n382), (.int .i64 n383), s384.v] /\
  needSome data1.p fun a385 =>
  0 <= j328 /\ j328 < (data1.l : Int) /\
  ∃ n386 : Int, ∃ n387 : Int, ∃ n388 : Int, ∃ n389 : Int, ∃ s390 : Slc, rowAt w377.drew (Addr.add a385 ((Int.toNat j328) * 5)) 0 [(.int .i64 n386), (.int .i64 n387), (.int .i64 n388), (.int .i64 n389), s390.v] /\
  needSome data1.p fun a391 =>
  0 <= j328 /\ j328 < (data1.l : Int) /\
  aw w377.drew (Addr.add a391 ((Int.toNat j328) * 5)) 5 /\ ∀ w392, w392 = setCells w377.drew (Addr.add a391 ((Int.toNat j328) * 5)) 0 [(.int .i64 n380), (.int .i64 n381), (.int .i64 n382), (.int .i64 n383), s384.v] ->
  needSome data1.p fun a393 =>
  0 <= (j328 - 1) /\ (j328 - 1) < (data1.l : Int) /\
  aw w392 (Addr.add a393 ((Int.toNat (j328 - 1)) * 5)) 5 /\ ∀ w394, w394 = setCells w392 (Addr.add a393 ((Int.toNat (j328 - 1)) * 5)) 0 [(.int .i64 n386), (.int .i64 n387), (.int .i64 n388), (.int .i64 n389), s390.v] ->
  inR .i64 (j328 + 1) /\
  (I326 ((j328 + 1)) w394 /\ mu327 ((j328 + 1)) w394 < mu327 j328 w329))) (
  inR .i64 (j7 + 1) /\
  (I4 (i178) ((j7 + 1)) w329 /\ mu5 (i178) ((j7 + 1)) w329 < mu5 i6 j7 w8)))) (
  inR .i64 (j7 + 1) /\
  (I4 (i178) ((j7 + 1)) w285 /\ mu5 (i178) ((j7 + 1)) w285 < mu5 i6 j7 w8))))))) (
  K (.bool false) w8))
theorem bz (data1 : Slc) (a2 : Int) (b3 : Int) {w : World} {R : Ending -> World -> Prop} (h : aL data1 a2 b3 w fun v w' => R (.returned v) w') : Calls Tryd.prog aG ⟨[data1.v, (.int .i64 a2), (.int .i64 b3), (.func (.func 16) ⟨[]⟩ ⟨[]⟩)]⟩ w R :=
  ae (ann := (.two .none (.two .none (.two (.two .none (.one (.loop [(9, (Sh.int .i64)), (10, (Sh.int .i64))] ([8, 11, 12] ++ List.range' 15 126) (.two .none (.two (.one (.cut [(9, (Sh.int .i64))] (List.range' 19 20) (.one (.loop [(9, (Sh.int .i64))] (List.range' 19 20) .none)) (.two .none (.two .none (.two .none (.cut [] ([11] ++ List.range' 62 39) (.two .none (.two (.two .none (.one (.loop [(11, (Sh.int .i64))] (List.range' 68 33) .none))) .none)) (.two .none (.two (.two .none (.one (.loop [(12, (Sh.int .i64))] (List.range' 107 34) .none))) .none)))))))) .none))))) .none)))) aj mixed Tryd.func37 (Eq.mp (by kernel_rfl) h)
def bk (data1 : Slc) (a2 : Int) (b3 : Int) (pivot4 : Int) (w : World) (K : Value -> World -> Prop) : Prop :=
  needSome data1.p fun a5 =>
  0 <= pivot4 /\ pivot4 < (data1.l : Int) /\
  ∃ n6 : Int, ∃ n7 : Int, ∃ n8 : Int, ∃ n9 : Int, ∃ s10 : Slc, rowAt w.drew (Addr.add a5 ((Int.toNat pivot4) * 5)) 0 [(.int .i64 n6), (.int .i64 n7), (.int .i64 n8), (.int .i64 n9), s10.v] /\
  needSome data1.p fun a11 =>
  0 <= a2 /\ a2 < (data1.l : Int) /\
  ∃ n12 : Int, ∃ n13 : Int, ∃ n14 : Int, ∃ n15 : Int, ∃ s16 : Slc, rowAt w.drew (Addr.add a11 ((Int.toNat a2) * 5)) 0 [(.int .i64 n12), (.int .i64 n13), (.int .i64 n14), (.int .i64 n15), s16.v] /\
  needSome data1.p fun a17 =>
  0 <= a2 /\ a2 < (data1.l : Int) /\
  aw w.drew (Addr.add a17 ((Int.toNat a2) * 5)) 5 /\ ∀ w18, w18 = setCells w.drew (Addr.add a17 ((Int.toNat a2) * 5)) 0 [(.int .i64 n6), (.int .i64 n7), (.int .i64 n8), (.int .i64 n9), s10.v] ->
  needSome data1.p fun a19 =>
  0 <= pivot4 /\ pivot4 < (data1.l : Int) /\
  aw w18 (Addr.add a19 ((Int.toNat pivot4) * 5)) 5 /\ ∀ w20, w20 = setCells w18 (Addr.add a19 ((Int.toNat pivot4) * 5)) 0 [(.int .i64 n12), (.int .i64 n13), (.int .i64 n14), (.int .i64 n15), s16.v] ->
  inR .i64 (a2 + 1) /\
  inR .i64 (b3 - 1) /\
  ∃ J21 : (Int) -> World -> Prop,
  (
  ∃ (I22 : (Int) -> World -> Prop) (mu23 : (Int) -> World -> Nat), I22 ((a2 + 1)) w20 /\ (
  ∀ i24 : Int, ∀ w25 : World, I22 i24 w25 -> ∀ _ _ _ _ _ _ _ _ _ _ _ _ _ _ _ _ _ _ : Value,
  BIf (decide (i24 <= (b3 - 1))) (
  needSome data1.p fun a44 =>
  0 <= i24 /\ i24 < (data1.l : Int) /\
  ∃ n45 : Int, ∃ n46 : Int, ∃ n47 : Int, ∃ n48 : Int, ∃ s49 : Slc, rowAt w25.drew (Addr.add a44 ((Int.toNat i24) * 5)) 0 [(.int .i64 n45), (.int .i64 n46), (.int .i64 n47), (.int .i64 n48), s49.v] /\
  needSome data1.p fun a50 =>
  0 <= a2 /\ a2 < (data1.l : Int) /\
  ∃ n51 : Int, ∃ n52 : Int, ∃ n53 : Int, ∃ n54 : Int, ∃ s55 : Slc, rowAt w25.drew (Addr.add a50 ((Int.toNat a2) * 5)) 0 [(.int .i64 n51), (.int .i64 n52), (.int .i64 n53), (.int .i64 n54), s55.v] /\
  Calls Tryd.prog ak ⟨[(.agg ⟨[(.int .i64 n45), (.int .i64 n46), (.int .i64 n47), (.int .i64 n48), s49.v]⟩), (.agg ⟨[(.int .i64 n51), (.int .i64 n52), (.int .i64 n53), (.int .i64 n54), s55.v]⟩)]⟩ w25.drew fun e56 w57 =>
  ∃ n58, e56 = .returned (.int .i64 n58) /\
  BIf (decide (n58 < 0)) (
  inR .i64 (i24 + 1) /\
  (I22 ((i24 + 1)) w57 /\ mu23 ((i24 + 1)) w57 < mu23 i24 w25)) (
  J21 (i24) w57)) (
  J21 (i24) w25.drew))) /\ (
  ∀ i59 : Int, ∀ w60 : World, J21 i59 w60 -> ∀ _ _ _ _ _ _ _ _ _ _ _ _ _ _ _ _ _ _ : Value,
  ∃ J79 : (Int) -> World -> Prop,
  (
  ∃ (I80 : (Int) -> World -> Prop) (mu81 : (Int) -> World -> Nat), I80 ((b3 - 1)) w60 /\ (
  ∀ j82 : Int, ∀ w83 : World, I80 j82 w83 -> ∀ _ _ _ _ _ _ _ _ _ _ _ _ _ _ _ _ _ _ _ : Value,
  BIf (decide (i59 <= j82)) (
  needSome data1.p fun a103 =>
  0 <= j82 /\ j82 < (data1.l : Int) /\
  ∃ n104 : Int, ∃ n105 : Int, ∃ n106 : Int, ∃ n107 : Int, ∃ s108 : Slc, rowAt w83.drew (Addr.add a103 ((Int.toNat j82) * 5)) 0 [(.int .i64 n104), (.int .i64 n105), (.int .i64 n106), (.int .i64 n107), s108.v] /\
  needSome data1.p fun a109 =>
  0 <= a2 /\ a2 < (data1.l : Int) /\
  ∃ n110 : Int, ∃ n111 : Int, ∃ n112 : Int, ∃ n113 : Int, ∃ s114 : Slc, rowAt w83.drew (Addr.add a109 ((Int.toNat a2) * 5)) 0 [(.int .i64 n110), (.int .i64 n111), (.int .i64 n112), (.int .i64 n113), s114.v] /\
  Calls Tryd.prog ak ⟨[(.agg ⟨[(.int .i64 n104), (.int .i64 n105), (.int .i64 n106), (.int .i64 n107), s108.v]⟩), (.agg ⟨[(.int .i64 n110), (.int .i64 n111), (.int .i64 n112), (.int .i64 n113), s114.v]⟩)]⟩ w83.drew fun e115 w116 =>
  ∃ n117, e115 = .returned (.int .i64 n117) /\
  BIf (!(decide (n117 < 0))) (
  inR .i64 (j82 - 1) /\
  (I80 ((j82 - 1)) w116 /\ mu81 ((j82 - 1)) w116 < mu81 j82 w83)) (
  J79 (j82) w116)) (
  J79 (j82) w83.drew))) /\ (
  ∀ j118 : Int, ∀ w119 : World, J79 j118 w119 -> ∀ _ _ _ _ _ _ _ _ _ _ _ _ _ _ _ _ _ _ _ : Value,
  BIf (decide (j118 < i59)) (
  needSome data1.p fun a139 =>
  0 <= a2 /\ a2 < (data1.l : Int) /\
  ∃ n140 : Int, ∃ n141 : Int, ∃ n142 : Int, ∃ n143 : Int, ∃ s144 : Slc, rowAt w119.drew (Addr.add a139 ((Int.toNat a2) * 5)) 0 [(.int .i64 n140), (.int .i64 n141), (.int .i64 n142), (.int .i64 n143), s144.v] /\
  needSome data1.p fun a145 =>
  0 <= j118 /\ j118 < (data1.l : Int) /\
  ∃ n146 : Int, ∃ n147 : Int, ∃ n148 : Int, ∃ n149 : Int, ∃ s150 : Slc, rowAt w119.drew (Addr.add a145 ((Int.toNat j118) * 5)) 0 [(.int .i64 n146), (.int .i64 n147), (.int .i64 n148), (.int .i64 n149), s150.v] /\
  needSome data1.p fun a151 =>
  0 <= j118 /\ j118 < (data1.l : Int) /\
  aw w119.drew (Addr.add a151 ((Int.toNat j118) * 5)) 5 /\ ∀ w152, w152 = setCells w119.drew (Addr.add a151 ((Int.toNat j118) * 5)) 0 [(.int .i64 n140), (.int .i64 n141), (.int .i64 n142), (.int .i64 n143), s144.v] ->
  needSome data1.p fun a153 =>
  0 <= a2 /\ a2 < (data1.l : Int) /\
  aw w152 (Addr.add a153 ((Int.toNat a2) * 5)) 5 /\ ∀ w154, w154 = setCells w152 (Addr.add a153 ((Int.toNat a2) * 5)) 0 [(.int .i64 n146), (.int .i64 n147), (.int .i64 n148), (.int .i64 n149), s150.v] ->
  K (.tuple ⟨[(.int .i64 j118), (.bool true)]⟩) w154) (
  needSome data1.p fun a155 =>
  0 <= j118 /\ j118 < (data1.l : Int) /\
  ∃ n156 : Int, ∃ n157 : Int, ∃ n158 : Int, ∃ n159 : Int, ∃ s160 : Slc, rowAt w119.drew (Addr.add a155 ((Int.toNat j118) * 5)) 0 [(.int .i64 n156), (.int .i64 n157), (.int .i64 n158), (.int .i64 n159), s160.v] /\
  needSome data1.p fun a161 =>
  0 <= i59 /\ i59 < (data1.l : Int) /\
  ∃ n162 : Int, ∃ n163 : Int, ∃ n164 : Int, ∃ n165 : Int, ∃ s166 : Slc, rowAt w119.drew (Addr.add a161 ((Int.toNat i59) * 5)) 0 [(.int .i64 n162), (.int .i64 n163), (.int .i64 n164), (.int .i64 n165), s166.v] /\
  needSome data1.p fun a167 =>
  0 <= i59 /\ i59 < (data1.l : Int) /\
  aw w119.drew (Addr.add a167 ((Int.toNat i59) * 5)) 5 /\ ∀ w168, w168 = setCells w119.drew (Addr.add a167 ((Int.toNat i59) * 5)) 0 [(.int .i64 n156), (.int .i64 n157), (.int .i64 n158), (.int .i64 n159), s160.v] ->
  needSome data1.p fun a169 =>
  0 <= j118 /\ j118 < (data1.l : Int) /\
  aw w168 (Addr.add a169 ((Int.toNat j118) * 5)) 5 /\ ∀ w170, w170 = setCells w168 (Addr.add a169 ((Int.toNat j118) * 5)) 0 [(.int .i64 n162), (.int .i64 n163), (.int .i64 n164), (.int .i64 n165), s166.v] ->
  inR .i64 (i59 + 1) /\
  inR .i64 (j118 - 1) /\
  ∃ J171 : (Int) -> World -> Prop,
  (
  ∃ (I172 : (Int) -> (Int) -> World -> Prop) (mu173 : (Int) -> (Int) -> World -> Nat), I172 ((i59 + 1)) ((j118 - 1)) w170 /\ (
  ∀ i174 : Int, ∀ j175 : Int, ∀ w176 : World, I172 i174 j175 w176 -> ∀ _ _ _ _ _ _ _ _ _ _ _ _ _ _ _ _ _ _ _ _ _ _ _ _ _ _ _ _ _ _ _ _ _ _ _ _ _ _ _ _ _ _ _ _ _ _ _ _ _ _ _ _ _ _ _ _ _ _ : Value,
  ∃ J235 : (Int) -> World -> Prop,
  (
  ∃ (I236 : (Int) -> World -> Prop) (mu237 : (Int) -> World -> Nat), I236 (i174) w176 /\ (
  ∀ i238 : Int, ∀ w239 : World, I236 i238 w239 -> ∀ _ _ _ _ _ _ _ _ _ _ _ _ _ _ _ _ _ _ : Value,
  BIf (decide (i238 <= j175)) (
  needSome data1.p fun a258 =>
  0 <= i238 /\ i238 < (data1.l : Int) /\
  ∃ n259 : Int, ∃ n260 : Int, ∃ n261 : Int, ∃ n262 : Int, ∃ s263 : Slc, rowAt w239.drew (Addr.add a258 ((Int.toNat i238) * 5)) 0 [(.int .i64 n259), (.int .i64 n260), (.int .i64 n261), (.int .i64 n262), s263.v] /\
  needSome data1.p fun a264 =>
  0 <= a2 /\ a2 < (data1.l : Int) /\
  ∃ n265 : Int, ∃ n266 : Int, ∃ n267 : Int, ∃ n268 : Int, ∃ s269 : Slc, rowAt w239.drew (Addr.add a264 ((Int.toNat a2) * 5)) 0 [(.int .i64 n265), (.int .i64 n266), (.int .i64 n267), (.int .i64 n268), s269.v] /\
  Calls Tryd.prog ak ⟨[(.agg ⟨[(.int .i64 n259), (.int .i64 n260), (.int .i64 n261), (.int .i64 n262), s263.v]⟩), (.agg ⟨[(.int .i64 n265), (.int .i64 n266), (.int .i64 n267), (.int .i64 n268), s269.v]⟩)]⟩ w239.drew fun e270 w271 =>
  ∃ n272, e270 = .returned (.int .i64 n272) /\
  BIf (decide (n272 < 0)) (
  inR .i64 (i238 + 1) /\
  (I236 ((i238 + 1)) w271 /\ mu237 ((i238 + 1)) w271 < mu237 i238 w239)) (
  J235 (i238) w271)) (
  J235 (i238) w239.drew))) /\ (
  ∀ i273 : Int, ∀ w274 : World, J235 i273 w274 -> ∀ _ _ _ _ _ _ _ _ _ _ _ _ _ _ _ _ _ _ : Value,
  ∃ J293 : (Int) -> World -> Prop,
  (
  ∃ (I294 : (Int) -> World -> Prop) (mu295 : (Int) -> World -> Nat), I294 (j175) w274 /\ (
  ∀ j296 : Int, ∀ w297 : World, I294 j296 w297 -> ∀ _ _ _ _ _ _ _ _ _ _ _ _ _ _ _ _ _ _ _ : Value,
  BIf (decide (i273 <= j296)) (
  needSome data1.p fun a317 =>
  0 <= j296 /\ j296 < (data1.l : Int) /\
  ∃ n318 : Int, ∃ n319 : Int, ∃ n320 : Int, ∃ n321 : Int, ∃ s322 : Slc, rowAt w297.drew (Addr.add a317 ((Int.toNat j296) * 5)) 0 [(.int .i64 n318), (.int .i64 n319), (.int .i64 n320), (.int .i64 n321), s322.v] /\
  needSome data1.p fun a323 =>
  0 <= a2 /\ a2 < (data1.l : Int) /\
  ∃ n324 : Int, ∃ n325 : Int, ∃ n326 : Int, ∃ n327 : Int, ∃ s328 : Slc, rowAt w297.drew (Addr.add a323 ((Int.toNat a2) * 5)) 0 [(.int .i64 n324), (.int .i64 n325), (.int .i64 n326), (.int .i64 n327), s328.v] /\
  Calls Tryd.prog ak ⟨[(.agg ⟨[(.int .i64 n318), (.int .i64 n319), (.int .i64 n320), (.int .i64 n321), s322.v]⟩), (.agg ⟨[(.int .i64 n324), (.int .i64 n325), (.int .i64 n326), (.int .i64 n327), s328.v]⟩)]⟩ w297.drew fun e329 w330 =>
  ∃ n331, e329 = .returned (.int .i64 n331) /\
  BIf (!(decide (n331 < 0))) (
  inR .i64 (j296 - 1) /\
  (I294 ((j296 - 1)) w330 /\ mu295 ((j296 - 1)) w330 < mu295 j296 w297)) (
  J293 (j296) w330)) (
  J293 (j296) w297.drew))) /\ (
  ∀ j332 : Int, ∀ w333 : World, J293 j332 w333 -> ∀ _ _ _ _ _ _ _ _ _ _ _ _ _ _ _ _ _ _ _ : Value,
  BIf (decide (j332 < i273)) (
  J171 (j332) w333) (
  needSome data1.p fun a353 =>
  0 <= j332 /\ j332 < (data1.l : Int) /\
  ∃ n354 : Int, ∃ n355 : Int, ∃ n356 : Int, ∃ n357 : Int, ∃ s358 : Slc, rowAt w333.drew (Addr.add a353 ((Int.toNat j332) * 5)) 0 [(.int .i64 n354), (.int .i64 n355), (.int .i64 n356), (.int .i64 n357), s358.v] /\
  needSome data1.p fun a359 =>
  0 <= i273 /\ i273 < (data1.l : Int) /\
  ∃ n360 : Int, ∃ n361 : Int, ∃ n362 : Int, ∃ n363 : Int, ∃ s364 : Slc, rowAt w333.drew (Addr.add a359 ((Int.toNat i273) * 5)) 0 [(.int .i64 n360), (.int .i64 n361), (.int .i64 n362), (.int .i64 n363), s364.v] /\
  needSome data1.p fun a365 =>
  0 <= i273 /\ i273 < (data1.l : Int) /\
  aw w333.drew (Addr.add a365 ((Int.toNat i273) * 5)) 5 /\ ∀ w366, w366 = setCells w333.drew (Addr.add a365 ((Int.toNat i273) * 5)) 0 [(.int .i64 n354), (.int .i64 n355), (.int .i64 n356), (.int .i64 n357), s358.v] ->
  needSome data1.p fun a367 =>
  0 <= j332 /\ j332 < (data1.l : Int) /\
  aw w366 (Addr.add a367 ((Int.toNat j332) * 5)) 5 /\ ∀ w368, w368 = setCells w366 (Addr.add a367 ((Int.toNat j332) * 5)) 0 [(.int .i64 n360), (.int .i64 n361), (.int .i64 n362), (.int .i64 n363), s364.v] ->
  inR .i64 (i273 + 1) /\
  inR .i64 (j332 - 1) /\
  (I172 ((i273 + 1)) ((j332 - 1)) w368 /\ mu173 ((i273 + 1)) ((j332 - 1)) w368 < mu173 i174 j175 w176)))))) /\ (
  ∀ j369 : Int, ∀ w370 : World, J171 j369 w370 -> ∀ _ _ _ _ _ _ _ _ _ _ _ _ _ _ _ _ _ _ _ _ _ _ _ _ _ _ _ _ _ _ _ _ _ _ _ _ _ _ _ _ _ _ _ _ _ _ _ _ _ _ _ _ _ _ _ _ _ _ _ : Value,
  needSome data1.p fun a430 =>
  0 <= a2 /\ a2 < (data1.l : Int) /\
  ∃ n431 : Int, ∃ n432 : Int, ∃ n433 : Int, ∃ n434 : Int, ∃ s435 : Slc, rowAt w370.drew (Addr.add a430 ((Int.toNat a2) * 5)) 0 [(.int .i64 n431), (.int .i64 n432), (.int .i64 n433), (.int .i64 n434), s435.v] /\
  needSome data1.p fun a436 =>
  0 <= j369 /\ j369 < (data1.l : Int) /\
  ∃ n437 : Int, ∃ n438 : Int, ∃ n439 : Int, ∃ n440 : Int, ∃ s441 : Slc, rowAt w370.drew (Addr.add a436 ((Int.toNat j369) * 5)) 0 [(.int .i64 n437), (.int .i64 n438), (.int .i64 n439), (.int .i64 n440), s441.v] /\
  needSome data1.p fun a442 =>
  0 <= j369 /\ j369 < (data1.l : Int) /\
  aw w370.drew (Addr.add a442 ((Int.toNat j369) * 5)) 5 /\ ∀ w443, w443 = setCells w370.drew (Addr.add a442 ((Int.toNat j369) * 5)) 0 [(.int .i64 n431), (.int .i64 n432), (.int .i64 n433), (.int .i64 n434), s435.v] ->
  needSome data1.p fun a444 =>
  0 <= a2 /\ a2 < (data1.l : Int) /\
  aw w443 (Addr.add a444 ((Int.toNat a2) * 5)) 5 /\ ∀ w445, w445 = setCells w443 (Addr.add a444 ((Int.toNat a2) * 5)) 0 [(.int .i64 n437), (.int .i64 n438), (.int .i64 n439), (.int .i64 n440), s441.v] ->
  K (.tuple ⟨[(.int .i64 j369), (.bool false)]⟩) w445))))
theorem cc (data1 : Slc) (a2 : Int) (b3 : Int) (pivot4 : Int) {w : World} {R : Ending -> World -> Prop} (h : bk data1 a2 b3 pivot4 w fun v w' => R (.returned v) w') : Calls Tryd.prog bj ⟨[data1.v, (.int .i64 a2), (.int .i64 b3), (.int .i64 pivot4), (.func (.func 16) ⟨[]⟩ ⟨[]⟩)]⟩ w R :=
  ae (ann := (.two .none (.two .none (.two .none (.cut [(12, (Sh.int .i64))] (List.range' 32 18) (.one (.loop [(12, (Sh.int .i64))] (List.range' 32 18) .none)) (.cut [(13, (Sh.int .i64))] (List.range' 50 19) (.one (.loop [(13, (Sh.int .i64))] (List.range' 50 19) .none)) (.two .none (.two .none (.two .none (.two .none (.cut [(13, (Sh.int .i64))] ([12] ++ List.range' 105 58) (.one (.loop [(12, (Sh.int .i64)), (13, (Sh.int .i64))] (List.range' 105 58) (.one (.cut [(12, (Sh.int .i64))] (List.range' 105 18) (.one (.loop [(12, (Sh.int .i64))] (List.range' 105 18) .none)) (.cut [(13, (Sh.int .i64))] (List.range' 123 19) (.one (.loop [(13, (Sh.int .i64))] (List.range' 123 19) .none)) .none))))) .none))))))))))) aj mixed Tryd.func39 (Eq.mp (by kernel_rfl) h)
end Go.D

