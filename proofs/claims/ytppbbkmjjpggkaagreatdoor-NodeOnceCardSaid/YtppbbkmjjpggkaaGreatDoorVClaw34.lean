/-
  WHAT IS PROVED: verification conditions of functions of this program, each with its soundness. No further conditions.
-/
import Derived.Test.YtppbbkmjjpggkaaGreatDoorBase
set_option linter.unusedSimpArgs false
set_option maxRecDepth 100000
set_option linter.unusedVariables false
namespace Go.D
open Go Go.Proofs
def jn  (w : World) (K : Value -> World -> Prop) : Prop :=
  Calls Tryz.prog kH ⟨[(.int .i64 (192 : Int))]⟩ w fun e1 w2 =>
  ∃ p3 : Option Addr, ∃ e4, e1 = .returned (.tuple ⟨[(.pointer p3), e4]⟩) /\
  isI e4 /\
  BIf (!isNilI e4) (
  K (.tuple ⟨[(.pointer none), (.pointer none)]⟩) w2) (
  Calls Tryz.prog jM ⟨[(.pointer p3)]⟩ w2 fun e5 w6 =>
  ∃ p7 : Option Addr, ∃ e8, e5 = .returned (.tuple ⟨[(.pointer p7), e8]⟩) /\
  isI e8 /\
  BIf (!isNilI e8) (
  K (.tuple ⟨[(.pointer none), (.pointer none)]⟩) w6) (
  BIf (Option.isNone (p7 : Option Addr)) (
  K (.tuple ⟨[(.pointer none), (.pointer none)]⟩) w6) (
  Calls Tryz.prog ud ⟨[(.pointer p7)]⟩ w6 fun e9 w10 =>
  ∃ p11, e9 = .returned (.pointer p11) /\
  Calls Tryz.prog fk ⟨[(.int .i64 (3 : Int))]⟩ w10 fun e12 w13 =>
  ∃ p14, e12 = .returned (.pointer p14) /\
  aH w13 (.cells ⟨[(.pointer p14), (Slc.v ⟨none, 0, 0⟩), (Slc.v ⟨none, 0, 0⟩)]⟩ 45) fun r15 w16 =>
  K (.tuple ⟨[(.pointer p11), (.pointer (some ⟨r15, 0, none⟩))]⟩) w16)))
theorem l8  {w : World} {R : Ending -> World -> Prop} (h : jn  w fun v w' => R (.returned v) w') : Calls Tryz.prog cM ⟨[]⟩ w R :=
  ab (ann := .none) ah mixed Tryz.func7 (Eq.mp (by kernel_rfl) h)
def jo  (w : World) (K : Value -> World -> Prop) : Prop :=
  Calls Tryz.prog cM ⟨[]⟩ w fun e1 w2 =>
  ∃ p3 : Option Addr, ∃ p4, e1 = .returned (.tuple ⟨[(.pointer p3), (.pointer p4)]⟩) /\
  Calls Tryz.prog fW ⟨[(.int .i64 (0 : Int))]⟩ w2 fun e5 w6 =>
  ∃ p7 : Option Addr, ∃ e8, e5 = .returned (.tuple ⟨[(.pointer p7), e8]⟩) /\
  ∃ J9 : World -> Prop,
  (
  BIf (Option.isNone (p3 : Option Addr)) (
  K (.bool false) w6) (
  isI e8 /\
  BIf (!isNilI e8) (
  K (.bool false) w6) (
  BIf (Option.isNone (p7 : Option Addr)) (
  K (.bool false) w6) (
  J9 w6)))) /\ (
  ∀ w10 : World, J9 w10 -> ∀ _ _ _ _ _ _ _ _ _ _ _ : Value,
  aH w10 (.cells ⟨[(.int .u8 (120 : Int))]⟩ 5) fun r22 w23 =>
  ∀ w25, w25 = markW w23 r22 ->
  Calls Tryz.prog fw ⟨[(.pointer p7), (.int .i64 (1 : Int)), (.int .i64 (0 : Int)), (.int .i64 (3 : Int)), (Slc.v (⟨(some ⟨r22, 0, none⟩), 1, 1⟩ : Slc))]⟩ w25 fun e26 w27 =>
  ∃ s28 : Slc, ∃ e29, e26 = .returned (.tuple ⟨[(Slc.v s28), e29]⟩) /\
  isI e29 /\
  BIf (!isNilI e29) (
  K (.bool false) w27) (
  Calls Tryz.prog cl ⟨[(.pointer p3), (.int .i64 (1 : Int)), (Slc.v s28)]⟩ w27 fun e30 w31 =>
  ∃ s32 : Slc, ∃ b33, e30 = .returned (.tuple ⟨[(Slc.v s32), (.bool b33)]⟩) /\
  Calls Tryz.prog cl ⟨[(.pointer p3), (.int .i64 (1 : Int)), (Slc.v s28)]⟩ w31 fun e34 w35 =>
  ∃ s36 : Slc, ∃ b37, e34 = .returned (.tuple ⟨[(Slc.v s36), (.bool b37)]⟩) /\
  BIf b33 (
  BIf b37 (
  ∃ t38 : List UInt8, ag w35 s32 t38 /\
  ∃ t39 : List UInt8, ag w35 s36 t39 /\
  BIf (decide (t38 = t39)) (
  Calls Tryz.prog eM ⟨[(.pointer p7), (Slc.v s32)]⟩ w35 fun e40 w41 =>
  ∃ b42, e40 = .returned (.bool b42) /\
  BIf b42 (
  Calls Tryz.prog bM ⟨[(.pointer p7)]⟩ w41 fun e43 w44 =>
  ∃ b45, e43 = .returned (.bool b45) /\
  BIf (!b45) (
  Calls Tryz.prog gw ⟨[(.pointer p3)]⟩ w44 fun e46 w47 =>
  ∃ n48, e46 = .returned (.int .i64 n48) /\
  K (.bool (decide (n48 = (1 : Int)))) w47) (
  K (.bool false) w44)) (
  K (.bool false) w41)) (
  K (.bool false) w35)) (
  K (.bool false) w35)) (
  K (.bool false) w35)))
theorem l9  {w : World} {R : Ending -> World -> Prop} (h : jo  w fun v w' => R (.returned v) w') : Calls Tryz.prog ei ⟨[]⟩ w R :=
  ab (ann := (.two .none (.two .none (.two .none (.cut [] ([0] ++ List.range' 18 10) .none .none))))) ah mixed Tryz.func6 (Eq.mp (by kernel_rfl) h)
def jI (tag1 : Int) (at2 : Int) (w : World) (K : Value -> World -> Prop) : Prop :=
  Calls Tryz.prog fj ⟨[(.agg ⟨[(.int .i64 tag1), (.int .i64 (2 : Int)), (.int .i64 (0 : Int)), (.int .i64 at2), (Slc.v ⟨none, 0, 0⟩)]⟩)]⟩ w fun e3 w4 =>
  ∃ s5, e3 = .returned (Slc.v s5) /\
  K (Slc.v s5) w4
theorem mM (tag1 : Int) (at2 : Int) {w : World} {R : Ending -> World -> Prop} (h : jI tag1 at2 w fun v w' => R (.returned v) w') : Calls Tryz.prog g9 ⟨[(.int .i64 tag1), (.int .i64 at2)]⟩ w R :=
  ab (ann := .none) ah mixed Tryz.func28 (Eq.mp (by kernel_rfl) h)
def jJ (b1 : Slc) (want2 : Int) (w : World) (K : Value -> World -> Prop) : Prop :=
  Calls Tryz.prog eL ⟨[(Slc.v b1)]⟩ w fun e3 w4 =>
  ∃ x5 : Int, ∃ x6 : Int, ∃ x7 : Int, ∃ x8 : Int, ∃ x9 : Slc, ∃ x10 : Int, ∃ x11 : Int, ∃ x12 : Int, ∃ x13 : Slc, ∃ n14 : Int, ∃ n15, e3 = .returned (.tuple ⟨[(.agg ⟨[(.int .i64 x5), (.int .i64 x6), (.int .i64 x7), (.int .i64 x8), (Slc.v x9)]⟩), (.agg ⟨[(.int .i64 x10), (.int .i64 x11), (.int .i64 x12), (Slc.v x13)]⟩), (.int .i64 n14), (.int .i64 n15)]⟩) /\
  aH w4 (.cells ⟨[(.int .i64 (0 : Int)), (.int .i64 (0 : Int)), (.int .i64 (0 : Int)), (.int .i64 (0 : Int)), (Slc.v ⟨none, 0, 0⟩)]⟩ 57) fun r16 w17 =>
  aH w17 (.cells ⟨[(.int .i64 (0 : Int)), (.int .i64 (0 : Int)), (.int .i64 (0 : Int)), (Slc.v ⟨none, 0, 0⟩)]⟩ 37) fun r18 w19 =>
  az w19 ⟨r16, 0, none⟩ 5 /\ ∀ w20, w20 = setCells w19 ⟨r16, 0, none⟩ 0 [(.int .i64 x5), (.int .i64 x6), (.int .i64 x7), (.int .i64 x8), (Slc.v x9)] ->
  az w20 ⟨r18, 0, none⟩ 4 /\ ∀ w21, w21 = setCells w20 ⟨r18, 0, none⟩ 0 [(.int .i64 x10), (.int .i64 x11), (.int .i64 x12), (Slc.v x13)] ->
  BIf (decide (n15 = (0 : Int))) (
  BIf (decide (n14 = (2 : Int))) (
  ∃ n22, w21.cell? ⟨r18, 1, none⟩ = some (.int .i64 n22) /\
  BIf (decide (n22 = (0 : Int))) (
  ∃ s23, w21.cell? ⟨r18, 3, none⟩ = some (Slc.v s23) /\
  BIf (decide ((s23.l : Int) = (1 : Int))) (
  ∃ s24, w21.cell? ⟨r18, 3, none⟩ = some (Slc.v s24) /\
  needSome s24.p fun a25 =>
  0 <= (0 : Int) /\ (0 : Int) < (s24.l : Int) /\
  ∃ n26, w21.cell? a25 = some (.int .u8 n26) /\
  K (.bool (decide (n26 = want2))) w21) (
  K (.bool false) w21)) (
  K (.bool false) w21)) (
  K (.bool false) w21)) (
  K (.bool false) w21)
theorem mN (b1 : Slc) (want2 : Int) {w : World} {R : Ending -> World -> Prop} (h : jJ b1 want2 w fun v w' => R (.returned v) w') : Calls Tryz.prog eQ ⟨[(Slc.v b1), (.int .u8 want2)]⟩ w R :=
  ab (ann := .none) ah mixed Tryz.func29 (Eq.mp (by kernel_rfl) h)
def gV (list1 : Slc) (w : World) (K : Value -> World -> Prop) : Prop :=
  Calls Tryz.prog ei ⟨[]⟩ w fun e2 w3 =>
  ∃ b4, e2 = .returned (.bool b4) /\
  BIf (!b4) (
  K (.bool false) w3) (
  BIf (decide ((100 : Int) < (list1.l : Int))) (
  K (.bool true) w3) (
  Calls Tryz.prog cM ⟨[]⟩ w3 fun e5 w6 =>
  ∃ p7 : Option Addr, ∃ p8, e5 = .returned (.tuple ⟨[(.pointer p7), (.pointer p8)]⟩) /\
  Calls Tryz.prog fW ⟨[(.int .i64 (7 : Int))]⟩ w6 fun e9 w10 =>
  ∃ p11 : Option Addr, ∃ e12, e9 = .returned (.tuple ⟨[(.pointer p11), e12]⟩) /\
  Calls Tryz.prog qm ⟨[(.int .i64 (2 : Int))]⟩ w10 fun e13 w14 =>
  ∃ p15 : Option Addr, ∃ e16, e13 = .returned (.tuple ⟨[(.pointer p15), e16]⟩) /\
  ∃ J17 : World -> Prop,
  (
  BIf (Option.isNone (p7 : Option Addr)) (
  K (.bool false) w14) (
  isI e12 /\
  BIf (!isNilI e12) (
  K (.bool false) w14) (
  isI e16 /\
  BIf (!isNilI e16) (
  K (.bool false) w14) (
  J17 w14)))) /\ (
  ∀ w18 : World, J17 w18 -> ∀ _ _ _ _ _ _ _ _ _ _ _ : Value,
  aH w18 (.map #[] 0) fun r30 w31 =>
  ∃ (I32 : (Int) -> (Int) -> (Int) -> World -> Prop) (mu33 : (Int) -> (Int) -> (Int) -> World -> Nat), I32 ((0 : Int)) ((0 : Int)) ((0 : Int)) w31 /\ (
  ∀ at34 : Int, ∀ by35 : Int, ∀ i36 : Int, ∀ w37 : World, I32 at34 by35 i36 w37 -> ∀ _ _ _ _ _ _ _ _ _ _ _ _ _ _ _ _ _ _ _ _ _ _ _ _ _ _ _ _ _ _ _ _ _ _ _ _ _ _ _ _ _ _ _ _ _ _ _ _ _ _ _ _ _ _ _ _ _ _ _ _ _ _ _ _ _ _ _ _ _ _ _ _ _ _ _ _ _ _ _ _ _ _ _ _ _ _ _ _ _ _ _ _ _ _ _ _ _ _ _ _ _ _ _ _ _ _ _ _ _ _ _ _ _ _ _ _ _ _ _ _ _ _ _ _ _ _ _ _ _ _ _ _ _ _ _ _ _ _ _ _ _ _ _ _ _ _ _ _ _ _ _ _ _ _ _ _ _ _ _ _ _ _ _ _ _ _ _ _ _ _ _ _ _ _ _ : Value,
  BIf (decide (i36 < (list1.l : Int))) (
  needSome list1.p fun a213 =>
  0 <= i36 /\ i36 < (list1.l : Int) /\
  ∃ n214 : Int, ∃ n215 : Int, ∃ n216 : Int, ∃ n217 : Int, rowAt w37 (Addr.add a213 ((Int.toNat i36) * 4)) 0 [(.int .i64 n214), (.int .i64 n215), (.int .i64 n216), (.int .u8 n217)] /\
  aH w37 (.cells ⟨[(.int .i64 (0 : Int)), (.int .i64 (0 : Int)), (.int .i64 (0 : Int)), (.int .u8 (0 : Int))]⟩ 75) fun r218 w219 =>
  az w219 ⟨r218, 0, none⟩ 4 /\ ∀ w220, w220 = setCells w219 ⟨r218, 0, none⟩ 0 [(.int .i64 n214), (.int .i64 n215), (.int .i64 n216), (.int .u8 n217)] ->
  ∃ n221, w220.cell? ⟨r218, 0, none⟩ = some (.int .i64 n221) /\
  BIf (decide (n221 = (0 : Int))) (
  Calls Tryz.prog bM ⟨[(.pointer p11)]⟩ w220 fun e222 w223 =>
  ∃ b224, e222 = .returned (.bool b224) /\
  BIf b224 (
  inR .i64 (i36 + (1 : Int)) /\
  (I32 (at34) (by35) ((i36 + (1 : Int))) w223 /\ mu33 (at34) (by35) ((i36 + (1 : Int))) w223 < mu33 at34 by35 i36 w37)) (
  ∃ n225, w223.drew.cell? ⟨r218, 1, none⟩ = some (.int .i64 n225) /\
  0 <= (IntKind.wrap .u64 n225) /\ 0 < (10 : Int) /\
  ∃ n226, w223.drew.cell? ⟨r218, 3, none⟩ = some (.int .u8 n226) /\
  aH w223.drew (.cells ⟨[(.int .u8 n226)]⟩ 5) fun r227 w228 =>
  Calls Tryz.prog fw ⟨[(.pointer p11), (.int .i64 (1 : Int)), (.int .i64 (0 : Int)), (.int .i64 (IntKind.wrap .i64 ((IntKind.wrap .u64 n225) % (10 : Int)))), (Slc.v (⟨(some ⟨r227, 0, none⟩), 1, 1⟩ : Slc))]⟩ w228 fun e229 w230 =>
  ∃ s231 : Slc, ∃ e232, e229 = .returned (.tuple ⟨[(Slc.v s231), e232]⟩) /\
  isI e232 /\
  BIf (isNilI e232) (
  Calls Tryz.prog dE ⟨[(.pointer p15), (.int .i64 (0 : Int)), (.int .i64 (1 : Int)), (Slc.v s231)]⟩ w230 fun e233 w234 =>
  ∃ n235 : Int, ∃ e236, e233 = .returned (.tuple ⟨[(.int .i64 n235), e236]⟩) /\
  inR .i64 (i36 + (1 : Int)) /\
  (I32 ((IntKind.wrap .i64 ((IntKind.wrap .u64 n225) % (10 : Int)))) (n226) ((i36 + (1 : Int))) w234 /\ mu33 ((IntKind.wrap .i64 ((IntKind.wrap .u64 n225) % (10 : Int)))) (n226) ((i36 + (1 : Int))) w234 < mu33 at34 by35 i36 w37)) (
  inR .i64 (i36 + (1 : Int)) /\
  (I32 ((IntKind.wrap .i64 ((IntKind.wrap .u64 n225) % (10 : Int)))) (n226) ((i36 + (1 : Int))) w230 /\ mu33 ((IntKind.wrap .i64 ((IntKind.wrap .u64 n225) % (10 : Int)))) (n226) ((i36 + (1 : Int))) w230 < mu33 at34 by35 i36 w37)))) (
  BIf (decide (n221 = (1 : Int))) (
  Calls Tryz.prog gi ⟨[(.pointer p11)]⟩ w220 fun e237 w238 =>
  ∃ s239 : Slc, ∃ b240, e237 = .returned (.tuple ⟨[(Slc.v s239), (.bool b240)]⟩) /\
  BIf b240 (
  Calls Tryz.prog dE ⟨[(.pointer p15), (.int .i64 (0 : Int)), (.int .i64 (1 : Int)), (Slc.v s239)]⟩ w238 fun e241 w242 =>
  ∃ n243 : Int, ∃ e244, e241 = .returned (.tuple ⟨[(.int .i64 n243), e244]⟩) /\
  inR .i64 (i36 + (1 : Int)) /\
  (I32 (at34) (by35) ((i36 + (1 : Int))) w242 /\ mu33 (at34) (by35) ((i36 + (1 : Int))) w242 < mu33 at34 by35 i36 w37)) (
  inR .i64 (i36 + (1 : Int)) /\
  (I32 (at34) (by35) ((i36 + (1 : Int))) w238 /\ mu33 (at34) (by35) ((i36 + (1 : Int))) w238 < mu33 at34 by35 i36 w37))) (
  BIf (decide (n221 = (2 : Int))) (
  Calls Tryz.prog fX ⟨[(.pointer p15), (.int .i64 (1 : Int))]⟩ w220 fun e245 w246 =>
  ∃ n247, e245 = .returned (.int .i64 n247) /\
  Calls Tryz.prog eO ⟨[(.pointer p15), (.int .i64 n247)]⟩ w246 fun e248 w249 =>
  ∃ x250 : Int, ∃ x251 : Int, ∃ x252 : Int, ∃ x253 : Slc, ∃ e254, e248 = .returned (.tuple ⟨[(.agg ⟨[(.int .i64 x250), (.int .i64 x251), (.int .i64 x252), (Slc.v x253)]⟩), e254]⟩) /\
  aH w249 (.cells ⟨[(.int .i64 (0 : Int)), (.int .i64 (0 : Int)), (.int .i64 (0 : Int)), (Slc.v ⟨none, 0, 0⟩)]⟩ 80) fun r255 w256 =>
  az w256 ⟨r255, 0, none⟩ 4 /\ ∀ w257, w257 = setCells w256 ⟨r255, 0, none⟩ 0 [(.int .i64 x250), (.int .i64 x251), (.int .i64 x252), (Slc.v x253)] ->
  isI e254 /\
  BIf (isNilI e254) (
  ∃ s258, w257.cell? ⟨r255, 3, none⟩ = some (Slc.v s258) /\
  Calls Tryz.prog cl ⟨[(.pointer p7), (.int .i64 (0 : Int)), (Slc.v s258)]⟩ w257 fun e259 w260 =>
  ∃ s261 : Slc, ∃ b262, e259 = .returned (.tuple ⟨[(Slc.v s261), (.bool b262)]⟩) /\
  BIf b262 (
  Calls Tryz.prog dE ⟨[(.pointer p15), (.int .i64 (1 : Int)), (.int .i64 (0 : Int)), (Slc.v s261)]⟩ w260 fun e263 w264 =>
  ∃ n265 : Int, ∃ e266, e263 = .returned (.tuple ⟨[(.int .i64 n265), e266]⟩) /\
  inR .i64 (i36 + (1 : Int)) /\
  (I32 (at34) (by35) ((i36 + (1 : Int))) w264 /\ mu33 (at34) (by35) ((i36 + (1 : Int))) w264 < mu33 at34 by35 i36 w37)) (
  inR .i64 (i36 + (1 : Int)) /\
  (I32 (at34) (by35) ((i36 + (1 : Int))) w260 /\ mu33 (at34) (by35) ((i36 + (1 : Int))) w260 < mu33 at34 by35 i36 w37))) (
  inR .i64 (i36 + (1 : Int)) /\
  (I32 (at34) (by35) ((i36 + (1 : Int))) w257 /\ mu33 (at34) (by35) ((i36 + (1 : Int))) w257 < mu33 at34 by35 i36 w37))) (
  BIf (decide (n221 = (3 : Int))) (
  Calls Tryz.prog fX ⟨[(.pointer p15), (.int .i64 (0 : Int))]⟩ w220 fun e267 w268 =>
  ∃ n269, e267 = .returned (.int .i64 n269) /\
  Calls Tryz.prog eO ⟨[(.pointer p15), (.int .i64 n269)]⟩ w268 fun e270 w271 =>
  ∃ x272 : Int, ∃ x273 : Int, ∃ x274 : Int, ∃ x275 : Slc, ∃ e276, e270 = .returned (.tuple ⟨[(.agg ⟨[(.int .i64 x272), (.int .i64 x273), (.int .i64 x274), (Slc.v x275)]⟩), e276]⟩) /\
  aH w271 (.cells ⟨[(.int .i64 (0 : Int)), (.int .i64 (0 : Int)), (.int .i64 (0 : Int)), (Slc.v ⟨none, 0, 0⟩)]⟩ 80) fun r277 w278 =>
  az w278 ⟨r277, 0, none⟩ 4 /\ ∀ w279, w279 = setCells w278 ⟨r277, 0, none⟩ 0 [(.int .i64 x272), (.int .i64 x273), (.int .i64 x274), (Slc.v x275)] ->
  ∃ J280 : World -> Prop,
  (
  isI e276 /\
  BIf (!isNilI e276) (
  inR .i64 (i36 + (1 : Int)) /\
  (I32 (at34) (by35) ((i36 + (1 : Int))) w279 /\ mu33 (at34) (by35) ((i36 + (1 : Int))) w279 < mu33 at34 by35 i36 w37)) (
  ∃ s281, w279.cell? ⟨r277, 3, none⟩ = some (Slc.v s281) /\
  Calls Tryz.prog eM ⟨[(.pointer p11), (Slc.v s281)]⟩ w279 fun e282 w283 =>
  ∃ b284, e282 = .returned (.bool b284) /\
  BIf (!b284) (
  inR .i64 (i36 + (1 : Int)) /\
  (I32 (at34) (by35) ((i36 + (1 : Int))) w283 /\ mu33 (at34) (by35) ((i36 + (1 : Int))) w283 < mu33 at34 by35 i36 w37)) (
  J280 w283))) /\ (
  ∀ w285 : World, J280 w285 -> ∀ _ _ _ _ _ _ _ _ _ : Value,
  Calls Tryz.prog gx ⟨[(.pointer p11)]⟩ w285 fun e295 w296 =>
  ∃ x297 : Int, ∃ x298 : Int, ∃ x299 : Int, ∃ x300 : Slc, ∃ b301, e295 = .returned (.tuple ⟨[(.agg ⟨[(.int .i64 x297), (.int .i64 x298), (.int .i64 x299), (Slc.v x300)]⟩), (.bool b301)]⟩) /\
  aH w296 (.cells ⟨[(.int .i64 (0 : Int)), (.int .i64 (0 : Int)), (.int .i64 (0 : Int)), (Slc.v ⟨none, 0, 0⟩)]⟩ 65) fun r302 w303 =>
  az w303 ⟨r302, 0, none⟩ 4 /\ ∀ w304, w304 = setCells w303 ⟨r302, 0, none⟩ 0 [(.int .i64 x297), (.int .i64 x298), (.int .i64 x299), (Slc.v x300)] ->
  ∃ es305 : Array MapEntry, mapIs w304 (some r30) es305 /\
  ∃ q306 : Option (Int), fI (.int .i64) (.int .i64 at34) es305 = some (Option.map (Sh.v (Sh.int .u8)) q306) /\
  ∃ J307 : World -> Prop,
  (
  ∃ n308, w304.cell? ⟨r302, 1, none⟩ = some (.int .i64 n308) /\
  BIf ((decide (n308 = (0 : Int))) == (Option.isSome q306)) (
  K (.bool false) w304) (
  ∃ n309, w304.cell? ⟨r302, 1, none⟩ = some (.int .i64 n309) /\
  BIf (!decide (n309 = (0 : Int))) (
  ∃ n310, w304.cell? ⟨r302, 1, none⟩ = some (.int .i64 n310) /\
  BIf (!decide (n310 = (9 : Int))) (
  K (.bool false) w304) (
  J307 w304)) (
  J307 w304))) /\ (
  ∀ w311 : World, J307 w311 -> ∀ _ _ _ _ _ _ _ _ _ _ _ _ _ _ _ _ : Value,
  ∃ J328 : (Int) -> World -> Prop,
  (
  BIf (!(Option.isSome q306)) (
  ∃ (mb329 : Nat) (es330 : Array MapEntry) (ck331 : Nat) (es332 : Array MapEntry) (ck333 : Nat), (some r30) = some mb329 /\ (World.heap (w311))[mb329]? = some (.map es330 ck331) /\ mapPut (.int .i64) (.int .i64 at34) (.int .u8 by35) es330 ck331 = some (es332, ck333) /\ ∀ w334, w334 = bc w311 mb329 (.map es332 ck333) ->
  J328 (by35) w334) (
  J328 ((Option.getD q306 0)) w311)) /\ (
  ∀ old335 : Int, ∀ w336 : World, J328 old335 w336 -> ∀ _ _ _ _ _ _ : Value,
  inR .i64 ((1000 : Int) + i36) /\
  Calls Tryz.prog g9 ⟨[(.int .i64 i36), (.int .i64 at34)]⟩ w336 fun e343 w344 =>
  ∃ s345, e343 = .returned (Slc.v s345) /\
  Calls Tryz.prog cl ⟨[(.pointer p7), (.int .i64 ((1000 : Int) + i36)), (Slc.v s345)]⟩ w344 fun e346 w347 =>
  ∃ s348 : Slc, ∃ b349, e346 = .returned (.tuple ⟨[(Slc.v s348), (.bool b349)]⟩) /\
  BIf (!b349) (
  K (.bool false) w347) (
  Calls Tryz.prog eQ ⟨[(Slc.v s348), (.int .u8 old335)]⟩ w347 fun e350 w351 =>
  ∃ b352, e350 = .returned (.bool b352) /\
  BIf (!b352) (
  K (.bool false) w351) (
  inR .i64 (i36 + (1 : Int)) /\
  (I32 (at34) (by35) ((i36 + (1 : Int))) w351 /\ mu33 (at34) (by35) ((i36 + (1 : Int))) w351 < mu33 at34 by35 i36 w37))))))) (
  BIf (decide (n221 = (4 : Int))) (
  ∃ n353, w220.cell? ⟨r218, 2, none⟩ = some (.int .i64 n353) /\
  Calls Tryz.prog jw ⟨[(.pointer p15), (.int .i64 n353)]⟩ w220 fun e354 w355 =>
  ∃ e356, e354 = .returned e356 /\
  inR .i64 (i36 + (1 : Int)) /\
  (I32 (at34) (by35) ((i36 + (1 : Int))) w355 /\ mu33 (at34) (by35) ((i36 + (1 : Int))) w355 < mu33 at34 by35 i36 w37)) (
  BIf (decide (n221 = (5 : Int))) (
  ∃ n357, w220.cell? ⟨r218, 2, none⟩ = some (.int .i64 n357) /\
  Calls Tryz.prog hZ ⟨[(.pointer p15), (.int .i64 n357)]⟩ w220 fun e358 w359 =>
  ∃ n360 : Int, ∃ e361, e358 = .returned (.tuple ⟨[(.int .i64 n360), e361]⟩) /\
  inR .i64 (i36 + (1 : Int)) /\
  (I32 (at34) (by35) ((i36 + (1 : Int))) w359 /\ mu33 (at34) (by35) ((i36 + (1 : Int))) w359 < mu33 at34 by35 i36 w37)) (
  inR .i64 (i36 + (1 : Int)) /\
  (I32 (at34) (by35) ((i36 + (1 : Int))) w220 /\ mu33 (at34) (by35) ((i36 + (1 : Int))) w220 < mu33 at34 by35 i36 w37)))))))) (
  K (.bool true) w37)))))
theorem kh (list1 : Slc) {w : World} {R : Ending -> World -> Prop} (h : gV list1 w fun v w' => R (.returned v) w') : Calls Tryz.prog dc ⟨[(Slc.v list1)]⟩ w R :=
  ab (ann := (.two .none (.two .none (.two .none (.two .none (.two .none (.two .none (.cut [] ([2] ++ List.range' 47 10) .none (.two .none (.two .none (.two (.two .none (.one (.loop [(10, (Sh.int .i64)), (11, (Sh.int .u8)), (60, (Sh.int .i64))] ([2] ++ List.range' 12 18 ++ List.range' 61 156) (.two .none (.two .none (.two (.one (.two .none (.two .none (.one (.two .none (.two .none (.two .none (.two .none (.two .none (.two .none (.two .none (.two (.two .none (.cut [] (List.range' 142 9) .none (.two .none (.two .none (.cut [] ([2] ++ List.range' 162 15) .none (.cut [(26, (Sh.int .u8))] [177, 178, 179, 180, 181, 182] .none .none)))))) .none)))))))))))) .none)))))) .none))))))))))) ah mixed Tryz.func5 (Eq.mp (by kernel_rfl) h)
end Go.D

