/-
  WHAT IS PROVED: verification conditions of functions of this program, each with its soundness. No further conditions.
-/
import Derived.Test.YtppbbkmjjpggkaaGreatDoorBase
set_option linter.unusedSimpArgs false
set_option maxRecDepth 100000
set_option linter.unusedVariables false
namespace Go.D
open Go Go.Proofs
def iF  (w : World) (K : Value -> World -> Prop) : Prop :=
  Calls Tryz.prog jP ⟨[(.int .i64 (192 : Int))]⟩ w fun e1 w2 =>
  ∃ p3 : Option Addr, ∃ e4, e1 = .returned (.tuple ⟨[(.pointer p3), e4]⟩) /\
  isI e4 /\
  BIf (!isNilI e4) (
  K (.tuple ⟨[(.pointer none), (.pointer none)]⟩) w2) (
  Calls Tryz.prog ja ⟨[(.pointer p3)]⟩ w2 fun e5 w6 =>
  ∃ p7 : Option Addr, ∃ e8, e5 = .returned (.tuple ⟨[(.pointer p7), e8]⟩) /\
  isI e8 /\
  BIf (!isNilI e8) (
  K (.tuple ⟨[(.pointer none), (.pointer none)]⟩) w6) (
  BIf (Option.isNone (p7 : Option Addr)) (
  K (.tuple ⟨[(.pointer none), (.pointer none)]⟩) w6) (
  Calls Tryz.prog rL ⟨[(.pointer p7)]⟩ w6 fun e9 w10 =>
  ∃ p11, e9 = .returned (.pointer p11) /\
  Calls Tryz.prog eM ⟨[(.int .i64 (3 : Int))]⟩ w10 fun e12 w13 =>
  ∃ p14, e12 = .returned (.pointer p14) /\
  aI w13 (.cells ⟨[(.pointer p14), (Slc.v ⟨none, 0, 0⟩), (Slc.v ⟨none, 0, 0⟩)]⟩ 45) fun r15 w16 =>
  K (.tuple ⟨[(.pointer p11), (.pointer (some ⟨r15, 0, none⟩))]⟩) w16)))
theorem kT  {w : World} {R : Ending -> World -> Prop} (h : iF  w fun v w' => R (.returned v) w') : Calls Tryz.prog dU ⟨[]⟩ w R :=
  ab (ann := .none) ah mixed Tryz.func7 (Eq.mp (by kernel_rfl) h)
def iG  (w : World) (K : Value -> World -> Prop) : Prop :=
  Calls Tryz.prog dU ⟨[]⟩ w fun e1 w2 =>
  ∃ p3 : Option Addr, ∃ p4, e1 = .returned (.tuple ⟨[(.pointer p3), (.pointer p4)]⟩) /\
  Calls Tryz.prog fv ⟨[(.int .i64 (0 : Int))]⟩ w2 fun e5 w6 =>
  ∃ p7 : Option Addr, ∃ e8, e5 = .returned (.tuple ⟨[(.pointer p7), e8]⟩) /\
  ∃ J9 : World -> Prop,
  (
  BIf (Option.isNone (p3 : Option Addr)) (
  K (.bool false) w6) (
  isI e8 /\
  BIf (!isNilI e8) (
  K (.bool false) w6) (
  BIf (Option.isNone (p7 : Option Addr)) (
  K (.bool false) w6) (
  J9 w6)))) /\ (
  ∀ w10 : World, J9 w10 -> ∀ _ _ _ _ _ _ _ _ _ _ _ : Value,
  aI w10 (.cells ⟨[(.int .u8 (120 : Int))]⟩ 5) fun r22 w23 =>
  ∀ w25, w25 = markW w23 r22 ->
  Calls Tryz.prog eU ⟨[(.pointer p7), (.int .i64 (1 : Int)), (.int .i64 (0 : Int)), (.int .i64 (3 : Int)), (Slc.v (⟨(some ⟨r22, 0, none⟩), 1, 1⟩ : Slc))]⟩ w25 fun e26 w27 =>
  ∃ s28 : Slc, ∃ e29, e26 = .returned (.tuple ⟨[(Slc.v s28), e29]⟩) /\
  isI e29 /\
  BIf (!isNilI e29) (
  K (.bool false) w27) (
  Calls Tryz.prog dO ⟨[(.pointer p3), (.int .i64 (1 : Int)), (Slc.v s28)]⟩ w27 fun e30 w31 =>
  ∃ s32 : Slc, ∃ b33, e30 = .returned (.tuple ⟨[(Slc.v s32), (.bool b33)]⟩) /\
  Calls Tryz.prog dO ⟨[(.pointer p3), (.int .i64 (1 : Int)), (Slc.v s28)]⟩ w31 fun e34 w35 =>
  ∃ s36 : Slc, ∃ b37, e34 = .returned (.tuple ⟨[(Slc.v s36), (.bool b37)]⟩) /\
  BIf b33 (
  BIf b37 (
  ∃ t38 : List UInt8, ag w35 s32 t38 /\
  ∃ t39 : List UInt8, ag w35 s36 t39 /\
  BIf (decide (t38 = t39)) (
  Calls Tryz.prog bq ⟨[(.pointer p7), (Slc.v s32)]⟩ w35 fun e40 w41 =>
  ∃ b42, e40 = .returned (.bool b42) /\
  BIf b42 (
  Calls Tryz.prog bf ⟨[(.pointer p7)]⟩ w41 fun e43 w44 =>
  ∃ b45, e43 = .returned (.bool b45) /\
  BIf (!b45) (
  Calls Tryz.prog fN ⟨[(.pointer p3)]⟩ w44 fun e46 w47 =>
  ∃ n48, e46 = .returned (.int .i64 n48) /\
  K (.bool (decide (n48 = (1 : Int)))) w47) (
  K (.bool false) w44)) (
  K (.bool false) w41)) (
  K (.bool false) w35)) (
  K (.bool false) w35)) (
  K (.bool false) w35)))
theorem kU  {w : World} {R : Ending -> World -> Prop} (h : iG  w fun v w' => R (.returned v) w') : Calls Tryz.prog dT ⟨[]⟩ w R :=
  ab (ann := (.two .none (.two .none (.two .none (.cut [] ([0] ++ List.range' 18 10) .none .none))))) ah mixed Tryz.func6 (Eq.mp (by kernel_rfl) h)
def gl (first1 : Int) (list2 : Slc) (w : World) (K : Value -> World -> Prop) : Prop :=
  Calls Tryz.prog dT ⟨[]⟩ w fun e3 w4 =>
  ∃ b5, e3 = .returned (.bool b5) /\
  BIf (!b5) (
  K (.bool false) w4) (
  BIf (decide ((60 : Int) < (list2.l : Int))) (
  K (.bool true) w4) (
  Calls Tryz.prog fv ⟨[(.int .i64 first1)]⟩ w4 fun e6 w7 =>
  ∃ p8 : Option Addr, ∃ e9, e6 = .returned (.tuple ⟨[(.pointer p8), e9]⟩) /\
  ∃ J10 : World -> Prop,
  (
  BIf (decide (first1 < (0 : Int))) (
  BIf (Option.isNone (p8 : Option Addr)) (
  Calls Tryz.prog bm ⟨[e9]⟩ w7 fun e11 w12 =>
  ∃ n13, e11 = .returned (.int .i64 n13) /\
  K (.bool (decide (n13 = (1 : Int)))) w12) (
  K (.bool false) w7)) (
  BIf (decide ((1073741824 : Int) < first1)) (
  BIf (Option.isNone (p8 : Option Addr)) (
  Calls Tryz.prog bm ⟨[e9]⟩ w7 fun e14 w15 =>
  ∃ n16, e14 = .returned (.int .i64 n16) /\
  K (.bool (decide (n16 = (1 : Int)))) w15) (
  K (.bool false) w7)) (
  J10 w7))) /\ (
  ∀ w17 : World, J10 w17 -> ∀ _ _ _ _ _ _ _ _ _ _ _ _ _ _ : Value,
  ∃ J32 : World -> Prop,
  (
  isI e9 /\
  BIf (!isNilI e9) (
  K (.bool false) w17) (
  BIf (Option.isNone (p8 : Option Addr)) (
  K (.bool false) w17) (
  J32 w17))) /\ (
  ∀ w33 : World, J32 w33 -> ∀ _ _ _ _ _ _ _ : Value,
  aI w33 (.cells ⟨[(.int .i64 (0 : Int)), (.int .i64 (0 : Int)), (.int .i64 (0 : Int)), (Slc.v ⟨none, 0, 0⟩)]⟩ 37) fun r41 w42 =>
  ∃ (I43 : (Int) -> (Bool) -> (Bool) -> (Slc) -> (Int) -> World -> Prop) (mu44 : (Int) -> (Bool) -> (Bool) -> (Slc) -> (Int) -> World -> Nat), I43 (first1) (false) (false) (⟨none, 0, 0⟩) ((0 : Int)) w42 /\ (
  ∀ tag45 : Int, ∀ busy46 : Bool, ∀ has47 : Bool, ∀ message48 : Slc, ∀ i49 : Int, ∀ w50 : World, I43 tag45 busy46 has47 message48 i49 w50 -> ∀ _ _ _ _ _ _ _ _ _ _ _ _ _ _ _ _ _ _ _ _ _ _ _ _ _ _ _ _ _ _ _ _ _ _ _ _ _ _ _ _ _ _ _ _ _ _ _ _ _ _ _ _ _ _ _ _ _ _ _ _ _ _ _ _ _ _ _ _ _ _ _ _ _ _ _ _ _ _ _ _ _ _ _ _ _ _ _ _ _ _ _ _ _ _ _ _ _ _ _ _ _ _ _ _ _ _ _ _ _ _ _ _ _ _ _ _ _ _ _ _ _ _ _ _ _ _ _ _ _ _ _ _ _ _ _ _ _ _ _ _ _ _ _ _ _ _ _ _ _ _ _ _ _ _ _ _ _ _ _ _ _ _ _ _ _ _ _ _ _ _ _ _ _ _ _ _ _ _ _ _ _ _ _ _ _ _ _ _ _ _ _ _ _ _ : Value,
  BIf (decide (i49 < (list2.l : Int))) (
  needSome list2.p fun a245 =>
  0 <= i49 /\ i49 < (list2.l : Int) /\
  ∃ n246 : Int, ∃ n247 : Int, ∃ n248 : Int, ∃ n249 : Int, ∃ n250 : Int, ∃ s251 : Slc, ∃ b252 : Bool, ∃ s253 : Slc, rowAt w50 (Addr.add a245 ((Int.toNat i49) * 8)) 0 [(.int .i64 n246), (.int .i64 n247), (.int .i64 n248), (.int .i64 n249), (.int .i64 n250), (Slc.v s251), (.bool b252), (Slc.v s253)] /\
  aI w50 (.cells ⟨[(.int .i64 (0 : Int)), (.int .i64 (0 : Int)), (.int .i64 (0 : Int)), (.int .i64 (0 : Int)), (.int .i64 (0 : Int)), (Slc.v ⟨none, 0, 0⟩), (.bool false), (Slc.v ⟨none, 0, 0⟩)]⟩ 56) fun r254 w255 =>
  az w255 ⟨r254, 0, none⟩ 8 /\ ∀ w256, w256 = setCells w255 ⟨r254, 0, none⟩ 0 [(.int .i64 n246), (.int .i64 n247), (.int .i64 n248), (.int .i64 n249), (.int .i64 n250), (Slc.v s251), (.bool b252), (Slc.v s253)] ->
  ∃ J257 : World -> Prop,
  (
  ∃ s258, w256.cell? ⟨r254, 7, none⟩ = some (Slc.v s258) /\
  BIf (decide ((3000 : Int) < (s258.l : Int))) (
  K (.bool true) w256) (
  ∃ s259, w256.cell? ⟨r254, 5, none⟩ = some (Slc.v s259) /\
  BIf (decide ((3000 : Int) < (s259.l : Int))) (
  K (.bool true) w256) (
  J257 w256))) /\ (
  ∀ w260 : World, J257 w260 -> ∀ _ _ _ _ _ _ _ _ _ _ _ _ : Value,
  ∃ n273, w260.cell? ⟨r254, 2, none⟩ = some (.int .i64 n273) /\
  ∃ n274, w260.cell? ⟨r254, 3, none⟩ = some (.int .i64 n274) /\
  ∃ n275, w260.cell? ⟨r254, 4, none⟩ = some (.int .i64 n275) /\
  ∃ s276, w260.cell? ⟨r254, 5, none⟩ = some (Slc.v s276) /\
  aI w260 (.cells ⟨[(.int .i64 (0 : Int)), (.int .i64 (0 : Int)), (.int .i64 (0 : Int)), (.int .i64 (0 : Int)), (Slc.v ⟨none, 0, 0⟩)]⟩ 57) fun r277 w278 =>
  az w278 ⟨r277, 0, none⟩ 5 /\ ∀ w279, w279 = setCells w278 ⟨r277, 0, none⟩ 0 [(.int .i64 tag45), (.int .i64 n273), (.int .i64 n274), (.int .i64 n275), (Slc.v s276)] ->
  ∃ J280 : (Int) -> (Bool) -> (Bool) -> (Slc) -> World -> Prop,
  (
  ∃ n281, w279.cell? ⟨r254, 0, none⟩ = some (.int .i64 n281) /\
  BIf (decide (n281 = (0 : Int))) (
  ∃ n282, w279.cell? ⟨r277, 1, none⟩ = some (.int .i64 n282) /\
  ∃ n283, w279.cell? ⟨r277, 2, none⟩ = some (.int .i64 n283) /\
  ∃ n284, w279.cell? ⟨r277, 3, none⟩ = some (.int .i64 n284) /\
  ∃ s285, w279.cell? ⟨r277, 4, none⟩ = some (Slc.v s285) /\
  Calls Tryz.prog eU ⟨[(.pointer p8), (.int .i64 n282), (.int .i64 n283), (.int .i64 n284), (Slc.v s285)]⟩ w279 fun e286 w287 =>
  ∃ s288 : Slc, ∃ e289, e286 = .returned (.tuple ⟨[(Slc.v s288), e289]⟩) /\
  ∃ J290 : (Int) -> World -> Prop,
  (
  BIf busy46 (
  J290 ((17 : Int)) w287) (
  BIf (decide ((1073741824 : Int) < tag45)) (
  J290 ((13 : Int)) w287) (
  ∃ n291 : Int, ∃ n292 : Int, ∃ n293 : Int, ∃ n294 : Int, ∃ s295 : Slc, rowAt w287 ⟨r277, 0, none⟩ 0 [(.int .i64 n291), (.int .i64 n292), (.int .i64 n293), (.int .i64 n294), (Slc.v s295)] /\
  Calls Tryz.prog bV ⟨[(.agg ⟨[(.int .i64 n291), (.int .i64 n292), (.int .i64 n293), (.int .i64 n294), (Slc.v s295)]⟩)]⟩ w287 fun e296 w297 =>
  ∃ b298, e296 = .returned (.bool b298) /\
  BIf (!b298) (
  J290 ((4 : Int)) w297) (
  J290 ((0 : Int)) w297)))) /\ (
  ∀ want299 : Int, ∀ w300 : World, J290 want299 w300 -> ∀ _ _ _ _ _ _ _ _ _ : Value,
  Calls Tryz.prog bm ⟨[e289]⟩ w300 fun e310 w311 =>
  ∃ n312, e310 = .returned (.int .i64 n312) /\
  BIf (!decide (n312 = want299)) (
  K (.bool false) w311) (
  BIf (decide (want299 = (0 : Int))) (
  ∃ n313 : Int, ∃ n314 : Int, ∃ n315 : Int, ∃ n316 : Int, ∃ s317 : Slc, rowAt w311 ⟨r277, 0, none⟩ 0 [(.int .i64 n313), (.int .i64 n314), (.int .i64 n315), (.int .i64 n316), (Slc.v s317)] /\
  Calls Tryz.prog eL ⟨[(.agg ⟨[(.int .i64 n313), (.int .i64 n314), (.int .i64 n315), (.int .i64 n316), (Slc.v s317)]⟩)]⟩ w311 fun e318 w319 =>
  ∃ s320, e318 = .returned (Slc.v s320) /\
  inR .i64 (tag45 + (1 : Int)) /\
  ∃ t321 : List UInt8, ag w319 s288 t321 /\
  ∃ t322 : List UInt8, ag w319 s320 t322 /\
  BIf (!decide (t321 = t322)) (
  K (.bool false) w319) (
  J280 ((tag45 + (1 : Int))) (true) (false) (s320) w319)) (
  J280 (tag45) (busy46) (has47) (message48) w311)))) (
  BIf (decide (n281 = (1 : Int))) (
  Calls Tryz.prog fC ⟨[(.pointer p8)]⟩ w279 fun e323 w324 =>
  ∃ s325 : Slc, ∃ b326, e323 = .returned (.tuple ⟨[(Slc.v s325), (.bool b326)]⟩) /\
  BIf (!(b326 == busy46)) (
  K (.bool false) w324) (
  BIf b326 (
  ∃ t327 : List UInt8, ag w324 s325 t327 /\
  ∃ t328 : List UInt8, ag w324 message48 t328 /\
  BIf (!decide (t327 = t328)) (
  K (.bool false) w324) (
  J280 (tag45) (busy46) (has47) (message48) w324)) (
  J280 (tag45) (busy46) (has47) (message48) w324))) (
  ∃ s329, w279.cell? ⟨r254, 7, none⟩ = some (Slc.v s329) /\
  ∃ J330 : (Slc) -> World -> Prop,
  (
  ∃ b331, w279.cell? ⟨r254, 6, none⟩ = some (.bool b331) /\
  BIf b331 (
  BIf busy46 (
  inR .i64 (tag45 - (1 : Int)) /\
  Calls Tryz.prog ew ⟨[(.agg ⟨[(.int .i64 (tag45 - (1 : Int))), (.int .i64 (0 : Int)), (.int .i64 (5 : Int)), (Slc.v ⟨none, 0, 0⟩)]⟩)]⟩ w279 fun e332 w333 =>
  ∃ s334, e332 = .returned (Slc.v s334) /\
  J330 (s334) w333) (
  J330 (s329) w279)) (
  J330 (s329) w279)) /\ (
  ∀ b335 : Slc, ∀ w336 : World, J330 b335 w336 -> ∀ _ _ _ _ _ _ _ _ _ : Value,
  Calls Tryz.prog ey ⟨[(Slc.v b335)]⟩ w336 fun e346 w347 =>
  ∃ x348 : Int, ∃ x349 : Int, ∃ x350 : Int, ∃ x351 : Int, ∃ x352 : Slc, ∃ x353 : Int, ∃ x354 : Int, ∃ x355 : Int, ∃ x356 : Slc, ∃ n357 : Int, ∃ n358, e346 = .returned (.tuple ⟨[(.agg ⟨[(.int .i64 x348), (.int .i64 x349), (.int .i64 x350), (.int .i64 x351), (Slc.v x352)]⟩), (.agg ⟨[(.int .i64 x353), (.int .i64 x354), (.int .i64 x355), (Slc.v x356)]⟩), (.int .i64 n357), (.int .i64 n358)]⟩) /\
  aI w347 (.cells ⟨[(.int .i64 (0 : Int)), (.int .i64 (0 : Int)), (.int .i64 (0 : Int)), (.int .i64 (0 : Int)), (Slc.v ⟨none, 0, 0⟩)]⟩ 57) fun r359 w360 =>
  aI w360 (.cells ⟨[(.int .i64 (0 : Int)), (.int .i64 (0 : Int)), (.int .i64 (0 : Int)), (Slc.v ⟨none, 0, 0⟩)]⟩ 37) fun r361 w362 =>
  az w362 ⟨r359, 0, none⟩ 5 /\ ∀ w363, w363 = setCells w362 ⟨r359, 0, none⟩ 0 [(.int .i64 x348), (.int .i64 x349), (.int .i64 x350), (.int .i64 x351), (Slc.v x352)] ->
  az w363 ⟨r361, 0, none⟩ 4 /\ ∀ w364, w364 = setCells w363 ⟨r361, 0, none⟩ 0 [(.int .i64 x353), (.int .i64 x354), (.int .i64 x355), (Slc.v x356)] ->
  BIf (decide (n358 = (0 : Int))) (
  BIf (decide (n357 = (2 : Int))) (
  BIf busy46 (
  ∃ n365, w364.cell? ⟨r361, 0, none⟩ = some (.int .i64 n365) /\
  inR .i64 (tag45 - (1 : Int)) /\
  Calls Tryz.prog bq ⟨[(.pointer p8), (Slc.v b335)]⟩ w364 fun e366 w367 =>
  ∃ b368, e366 = .returned (.bool b368) /\
  BIf (!(b368 == (decide (n365 = (tag45 - (1 : Int)))))) (
  K (.bool false) w367) (
  BIf (decide (n365 = (tag45 - (1 : Int)))) (
  ∃ n369 : Int, ∃ n370 : Int, ∃ n371 : Int, ∃ s372 : Slc, rowAt w367.drew ⟨r361, 0, none⟩ 0 [(.int .i64 n369), (.int .i64 n370), (.int .i64 n371), (Slc.v s372)] /\
  az w367.drew ⟨r41, 0, none⟩ 4 /\ ∀ w373, w373 = setCells w367.drew ⟨r41, 0, none⟩ 0 [(.int .i64 n369), (.int .i64 n370), (.int .i64 n371), (Slc.v s372)] ->
  J280 (tag45) (false) (true) (message48) w373) (
  J280 (tag45) (busy46) (has47) (message48) w367))) (
  Calls Tryz.prog bq ⟨[(.pointer p8), (Slc.v b335)]⟩ w364 fun e374 w375 =>
  ∃ b376, e374 = .returned (.bool b376) /\
  BIf (!(b376 == false)) (
  K (.bool false) w375) (
  J280 (tag45) (busy46) (has47) (message48) w375))) (
  Calls Tryz.prog bq ⟨[(.pointer p8), (Slc.v b335)]⟩ w364 fun e377 w378 =>
  ∃ b379, e377 = .returned (.bool b379) /\
  BIf (!(b379 == false)) (
  K (.bool false) w378) (
  J280 (tag45) (busy46) (has47) (message48) w378))) (
  Calls Tryz.prog bq ⟨[(.pointer p8), (Slc.v b335)]⟩ w364 fun e380 w381 =>
  ∃ b382, e380 = .returned (.bool b382) /\
  BIf (!(b382 == false)) (
  K (.bool false) w381) (
  J280 (tag45) (busy46) (has47) (message48) w381)))))) /\ (
  ∀ tag383 : Int, ∀ busy384 : Bool, ∀ has385 : Bool, ∀ message386 : Slc, ∀ w387 : World, J280 tag383 busy384 has385 message386 w387 -> ∀ _ _ _ _ _ _ _ _ _ _ _ _ _ _ _ _ _ _ _ _ _ _ _ _ _ _ _ _ _ _ _ _ _ _ _ _ _ _ _ _ _ _ _ _ _ _ _ _ _ _ _ _ _ _ _ _ _ _ _ _ _ _ _ _ _ _ _ _ _ _ _ _ _ _ _ _ _ _ _ _ _ _ _ _ _ _ _ _ _ _ _ _ _ _ _ _ _ _ _ _ _ _ _ _ _ _ _ _ _ _ _ _ _ _ : Value,
  Calls Tryz.prog fO ⟨[(.pointer p8)]⟩ w387 fun e502 w503 =>
  ∃ x504 : Int, ∃ x505 : Int, ∃ x506 : Int, ∃ x507 : Slc, ∃ b508, e502 = .returned (.tuple ⟨[(.agg ⟨[(.int .i64 x504), (.int .i64 x505), (.int .i64 x506), (Slc.v x507)]⟩), (.bool b508)]⟩) /\
  aI w503 (.cells ⟨[(.int .i64 (0 : Int)), (.int .i64 (0 : Int)), (.int .i64 (0 : Int)), (Slc.v ⟨none, 0, 0⟩)]⟩ 65) fun r509 w510 =>
  az w510 ⟨r509, 0, none⟩ 4 /\ ∀ w511, w511 = setCells w510 ⟨r509, 0, none⟩ 0 [(.int .i64 x504), (.int .i64 x505), (.int .i64 x506), (Slc.v x507)] ->
  BIf (!(b508 == has385)) (
  K (.bool false) w511) (
  BIf b508 (
  ∃ n512, w511.cell? ⟨r509, 0, none⟩ = some (.int .i64 n512) /\
  ∃ n513, w511.cell? ⟨r41, 0, none⟩ = some (.int .i64 n513) /\
  BIf (!decide (n512 = n513)) (
  K (.bool false) w511) (
  ∃ n514, w511.cell? ⟨r509, 1, none⟩ = some (.int .i64 n514) /\
  ∃ n515, w511.cell? ⟨r41, 1, none⟩ = some (.int .i64 n515) /\
  BIf (!decide (n514 = n515)) (
  K (.bool false) w511) (
  ∃ n516, w511.cell? ⟨r509, 2, none⟩ = some (.int .i64 n516) /\
  ∃ n517, w511.cell? ⟨r41, 2, none⟩ = some (.int .i64 n517) /\
  BIf (!decide (n516 = n517)) (
  K (.bool false) w511) (
  ∃ s518, w511.cell? ⟨r509, 3, none⟩ = some (Slc.v s518) /\
  ∃ t519 : List UInt8, ag w511 s518 t519 /\
  ∃ s520, w511.cell? ⟨r41, 3, none⟩ = some (Slc.v s520) /\
  ∃ t521 : List UInt8, ag w511 s520 t521 /\
  BIf (!decide (t519 = t521)) (
  K (.bool false) w511) (
  Calls Tryz.prog bf ⟨[(.pointer p8)]⟩ w511 fun e522 w523 =>
  ∃ b524, e522 = .returned (.bool b524) /\
  BIf (!(b524 == busy384)) (
  K (.bool false) w523) (
  inR .i64 (i49 + (1 : Int)) /\
  (I43 (tag383) (busy384) (has385) (message386) ((i49 + (1 : Int))) w523 /\ mu44 (tag383) (busy384) (has385) (message386) ((i49 + (1 : Int))) w523 < mu44 tag45 busy46 has47 message48 i49 w50))))))) (
  Calls Tryz.prog bf ⟨[(.pointer p8)]⟩ w511 fun e525 w526 =>
  ∃ b527, e525 = .returned (.bool b527) /\
  BIf (!(b527 == busy384)) (
  K (.bool false) w526) (
  inR .i64 (i49 + (1 : Int)) /\
  (I43 (tag383) (busy384) (has385) (message386) ((i49 + (1 : Int))) w526 /\ mu44 (tag383) (busy384) (has385) (message386) ((i49 + (1 : Int))) w526 < mu44 tag45 busy46 has47 message48 i49 w50))))))) (
  K (.bool true) w50))))))
theorem jy (first1 : Int) (list2 : Slc) {w : World} {R : Ending -> World -> Prop} (h : gl first1 list2 w fun v w' => R (.returned v) w') : Calls Tryz.prog cW ⟨[(.int .i64 first1), (Slc.v list2)]⟩ w R :=
  ab (ann := (.two .none (.two .none (.two .none (.two .none (.cut [] ([4] ++ List.range' 38 13) .none (.cut [] [4, 51, 52, 53, 54, 55, 56] .none (.two .none (.two .none (.two .none (.two (.two .none (.one (.loop [(7, (Sh.int .i64)), (8, Sh.bool), (9, Sh.bool), (10, Sh.slc), (60, (Sh.int .i64))] ([4] ++ List.range' 13 15 ++ List.range' 61 178) (.two .none (.two .none (.two (.one (.two .none (.cut [] ([4] ++ List.range' 64 11) .none (.two .none (.cut [(7, (Sh.int .i64)), (8, Sh.bool), (9, Sh.bool), (10, Sh.slc)] ([4] ++ List.range' 15 11 ++ List.range' 89 102) (.two .none (.one (.two .none (.two (.two .none (.two .none (.cut [(17, (Sh.int .i64))] (List.range' 147 9) .none .none))) (.two .none (.two .none (.two .none (.cut [(20, Sh.slc)] (List.range' 93 9) .none .none)))))))) .none))))) .none)))))) .none))))))))))) ah mixed Tryz.func4 (Eq.mp (by kernel_rfl) h)
end Go.D

