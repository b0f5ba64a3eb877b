/-
  WHAT IS PROVED: verification conditions of functions of this program, each with its soundness. No further conditions.
-/
import Derived.Test.YtppbbkmjjpggkaaGreatDoorBase
set_option linter.unusedSimpArgs false
set_option maxRecDepth 100000
set_option linter.unusedVariables false
namespace Go.D
open Go Go.Proofs
def fX (n1 : Option Addr) (from2 : Int) (b3 : Slc) (w : World) (K : Value -> World -> Prop) : Prop :=
  aC w (.cells ⟨[(.int .i64 (0 : Int)), (.int .i64 (0 : Int)), (.int .i64 (0 : Int)), (Slc.v ⟨none, 0, 0⟩)]⟩ 37) fun r4 w5 =>
  Calls Tryz.prog fk ⟨[(Slc.v b3)]⟩ w5 fun e6 w7 =>
  ∃ x8 : Int, ∃ x9 : Int, ∃ x10 : Int, ∃ x11 : Int, ∃ x12 : Slc, ∃ x13 : Int, ∃ x14 : Int, ∃ x15 : Int, ∃ x16 : Slc, ∃ n17 : Int, ∃ n18, e6 = .returned (.tuple ⟨[(.agg ⟨[(.int .i64 x8), (.int .i64 x9), (.int .i64 x10), (.int .i64 x11), (Slc.v x12)]⟩), (.agg ⟨[(.int .i64 x13), (.int .i64 x14), (.int .i64 x15), (Slc.v x16)]⟩), (.int .i64 n17), (.int .i64 n18)]⟩) /\
  aC w7 (.cells ⟨[(.int .i64 (0 : Int)), (.int .i64 (0 : Int)), (.int .i64 (0 : Int)), (.int .i64 (0 : Int)), (Slc.v ⟨none, 0, 0⟩)]⟩ 57) fun r19 w20 =>
  aC w20 (.cells ⟨[(.int .i64 (0 : Int)), (.int .i64 (0 : Int)), (.int .i64 (0 : Int)), (Slc.v ⟨none, 0, 0⟩)]⟩ 37) fun r21 w22 =>
  ar w22 ⟨r19, 0, none⟩ 5 /\ ∀ w23, w23 = setCells w22 ⟨r19, 0, none⟩ 0 [(.int .i64 x8), (.int .i64 x9), (.int .i64 x10), (.int .i64 x11), (Slc.v x12)] ->
  ar w23 ⟨r21, 0, none⟩ 4 /\ ∀ w24, w24 = setCells w23 ⟨r21, 0, none⟩ 0 [(.int .i64 x13), (.int .i64 x14), (.int .i64 x15), (Slc.v x16)] ->
  ∃ J25 : World -> Prop,
  (
  BIf (!decide (n18 = (0 : Int))) (
  ar w24 ⟨r4, 0, none⟩ 4 /\ ∀ w26, w26 = setCells w24 ⟨r4, 0, none⟩ 0 [(.int .i64 (0 : Int)), (.int .i64 (0 : Int)), (.int .i64 (0 : Int)), (Slc.v ⟨none, 0, 0⟩)] ->
  ∃ n27 : Int, ∃ n28 : Int, ∃ n29 : Int, ∃ s30 : Slc, rowAt w26 ⟨r4, 0, none⟩ 0 [(.int .i64 n27), (.int .i64 n28), (.int .i64 n29), (Slc.v s30)] /\
  K (.tuple ⟨[(.agg ⟨[(.int .i64 n27), (.int .i64 n28), (.int .i64 n29), (Slc.v s30)]⟩), (.bool false)]⟩) w26) (
  BIf (!decide (n17 = (1 : Int))) (
  ar w24 ⟨r4, 0, none⟩ 4 /\ ∀ w31, w31 = setCells w24 ⟨r4, 0, none⟩ 0 [(.int .i64 (0 : Int)), (.int .i64 (0 : Int)), (.int .i64 (0 : Int)), (Slc.v ⟨none, 0, 0⟩)] ->
  ∃ n32 : Int, ∃ n33 : Int, ∃ n34 : Int, ∃ s35 : Slc, rowAt w31 ⟨r4, 0, none⟩ 0 [(.int .i64 n32), (.int .i64 n33), (.int .i64 n34), (Slc.v s35)] /\
  K (.tuple ⟨[(.agg ⟨[(.int .i64 n32), (.int .i64 n33), (.int .i64 n34), (Slc.v s35)]⟩), (.bool false)]⟩) w31) (
  J25 w24))) /\ (
  ∀ w36 : World, J25 w36 -> ∀ _ _ _ _ _ _ _ _ : Value,
  needSome n1 fun a45 =>
  ∃ s46, w36.cell? (a45.add 2) = some (Slc.v s46) /\
  inR .i64 ((s46.l : Int) - (32 : Int)) /\
  ∃ (I47 : (Int) -> World -> Prop) (mu48 : (Int) -> World -> Nat), I47 ((if ((s46.l : Int) - (32 : Int)) > (0 : Int) then ((s46.l : Int) - (32 : Int)) else (0 : Int))) w36 /\ (
  ∀ i49 : Int, ∀ w50 : World, I47 i49 w50 -> ∀ _ _ _ _ _ _ _ _ _ _ _ _ _ _ _ _ _ _ _ _ _ _ _ _ _ _ _ _ _ _ _ _ _ _ _ _ _ _ _ : Value,
  needSome n1 fun a90 =>
  ∃ s91, w50.cell? (a90.add 2) = some (Slc.v s91) /\
  BIf (decide (i49 < (s91.l : Int))) (
  needSome n1 fun a92 =>
  ∃ s93, w50.drew.cell? (a92.add 1) = some (Slc.v s93) /\
  needSome s93.p fun a94 =>
  0 <= i49 /\ i49 < (s93.l : Int) /\
  ∃ n95, w50.drew.cell? (Addr.add a94 ((Int.toNat i49) * 1)) = some (.int .i64 n95) /\
  BIf (decide (n95 = from2)) (
  needSome n1 fun a96 =>
  ∃ s97, w50.drew.cell? (a96.add 2) = some (Slc.v s97) /\
  needSome s97.p fun a98 =>
  0 <= i49 /\ i49 < (s97.l : Int) /\
  ∃ n99, w50.drew.cell? (Addr.add a98 ((Int.toNat i49) * 4)) = some (.int .i64 n99) /\
  ∃ n100, w50.drew.cell? ⟨r19, 0, none⟩ = some (.int .i64 n100) /\
  BIf (decide (n99 = n100)) (
  needSome n1 fun a101 =>
  ∃ s102, w50.drew.cell? (a101.add 2) = some (Slc.v s102) /\
  needSome s102.p fun a103 =>
  0 <= i49 /\ i49 < (s102.l : Int) /\
  ∃ n104 : Int, ∃ n105 : Int, ∃ n106 : Int, ∃ s107 : Slc, rowAt w50.drew (Addr.add a103 ((Int.toNat i49) * 4)) 0 [(.int .i64 n104), (.int .i64 n105), (.int .i64 n106), (Slc.v s107)] /\
  ar w50.drew ⟨r4, 0, none⟩ 4 /\ ∀ w108, w108 = setCells w50.drew ⟨r4, 0, none⟩ 0 [(.int .i64 n104), (.int .i64 n105), (.int .i64 n106), (Slc.v s107)] ->
  ∃ n109 : Int, ∃ n110 : Int, ∃ n111 : Int, ∃ s112 : Slc, rowAt w108 ⟨r4, 0, none⟩ 0 [(.int .i64 n109), (.int .i64 n110), (.int .i64 n111), (Slc.v s112)] /\
  K (.tuple ⟨[(.agg ⟨[(.int .i64 n109), (.int .i64 n110), (.int .i64 n111), (Slc.v s112)]⟩), (.bool true)]⟩) w108) (
  inR .i64 (i49 + (1 : Int)) /\
  (I47 ((i49 + (1 : Int))) w50.drew /\ mu48 ((i49 + (1 : Int))) w50.drew < mu48 i49 w50))) (
  inR .i64 (i49 + (1 : Int)) /\
  (I47 ((i49 + (1 : Int))) w50.drew /\ mu48 ((i49 + (1 : Int))) w50.drew < mu48 i49 w50))) (
  ∃ n113, w50.cell? ⟨r19, 0, none⟩ = some (.int .i64 n113) /\
  aC w50 (.cells ⟨[(.int .i64 (0 : Int)), (.int .i64 (0 : Int)), (.int .i64 (0 : Int)), (Slc.v ⟨none, 0, 0⟩)]⟩ 37) fun r114 w115 =>
  ar w115 ⟨r114, 0, none⟩ 4 /\ ∀ w116, w116 = setCells w115 ⟨r114, 0, none⟩ 0 [(.int .i64 n113), (.int .i64 (0 : Int)), (.int .i64 (0 : Int)), (Slc.v ⟨none, 0, 0⟩)] ->
  needSome n1 fun a117 =>
  ∃ p118 : Option Addr, w116.cell? a117 = some (.pointer p118) /\
  ∃ J119 : World -> Prop,
  (
  ∃ n120, w116.cell? ⟨r19, 1, none⟩ = some (.int .i64 n120) /\
  BIf (decide (n120 = (1 : Int))) (
  ∃ n121, w116.cell? ⟨r19, 2, none⟩ = some (.int .i64 n121) /\
  ∃ n122, w116.cell? ⟨r19, 3, none⟩ = some (.int .i64 n122) /\
  ∃ s123, w116.cell? ⟨r19, 4, none⟩ = some (Slc.v s123) /\
  Calls Tryz.prog cZ ⟨[(.pointer p118), (.int .i64 n121), (.int .i64 n122), (Slc.v s123)]⟩ w116 fun e124 w125 =>
  ∃ n126, e124 = .returned (.int .i64 n126) /\
  ar w125 ⟨r114, 1, none⟩ 1 /\ ∀ w127, w127 = w125.setCell ⟨r114, 1, none⟩ (.int .i64 n126) ->
  J119 w127) (
  BIf (decide (n120 = (2 : Int))) (
  ∃ n128, w116.cell? ⟨r19, 2, none⟩ = some (.int .i64 n128) /\
  ∃ n129, w116.cell? ⟨r19, 3, none⟩ = some (.int .i64 n129) /\
  Calls Tryz.prog dt ⟨[(.pointer p118), (.int .i64 n128), (.int .i64 n129)]⟩ w116 fun e130 w131 =>
  ∃ s132 : Slc, ∃ n133, e130 = .returned (.tuple ⟨[(Slc.v s132), (.int .i64 n133)]⟩) /\
  ar w131 ⟨r114, 3, none⟩ 1 /\ ∀ w134, w134 = w131.setCell ⟨r114, 3, none⟩ (Slc.v s132) ->
  ar w134 ⟨r114, 1, none⟩ 1 /\ ∀ w135, w135 = w134.setCell ⟨r114, 1, none⟩ (.int .i64 n133) ->
  ∃ s136, w135.cell? ⟨r114, 3, none⟩ = some (Slc.v s136) /\
  BIf (decide ((2000 : Int) < (s136.l : Int))) (
  ar w135 ⟨r114, 3, none⟩ 1 /\ ∀ w137, w137 = w135.setCell ⟨r114, 3, none⟩ (Slc.v ⟨none, 0, 0⟩) ->
  ar w137 ⟨r114, 1, none⟩ 1 /\ ∀ w138, w138 = w137.setCell ⟨r114, 1, none⟩ (.int .i64 (3 : Int)) ->
  J119 w138) (
  J119 w135)) (
  BIf (decide (n120 = (3 : Int))) (
  ∃ n139, w116.cell? ⟨r19, 2, none⟩ = some (.int .i64 n139) /\
  ∃ n140, w116.cell? ⟨r19, 3, none⟩ = some (.int .i64 n140) /\
  Calls Tryz.prog du ⟨[(.pointer p118), (.int .i64 n139), (.int .i64 n140)]⟩ w116 fun e141 w142 =>
  ∃ n143, e141 = .returned (.int .i64 n143) /\
  ar w142 ⟨r114, 1, none⟩ 1 /\ ∀ w144, w144 = w142.setCell ⟨r114, 1, none⟩ (.int .i64 n143) ->
  J119 w144) (
  BIf (decide (n120 = (4 : Int))) (
  ∃ n145, w116.cell? ⟨r19, 2, none⟩ = some (.int .i64 n145) /\
  Calls Tryz.prog dx ⟨[(.pointer p118), (.int .i64 n145)]⟩ w116 fun e146 w147 =>
  ∃ n148 : Int, ∃ n149, e146 = .returned (.tuple ⟨[(.int .i64 n148), (.int .i64 n149)]⟩) /\
  ar w147 ⟨r114, 2, none⟩ 1 /\ ∀ w150, w150 = w147.setCell ⟨r114, 2, none⟩ (.int .i64 n148) ->
  ar w150 ⟨r114, 1, none⟩ 1 /\ ∀ w151, w151 = w150.setCell ⟨r114, 1, none⟩ (.int .i64 n149) ->
  J119 w151) (
  BIf (decide (n120 = (5 : Int))) (
  Calls Tryz.prog bp ⟨[(.pointer p118)]⟩ w116 fun e152 w153 =>
  ∃ n154, e152 = .returned (.int .i64 n154) /\
  ar w153 ⟨r114, 2, none⟩ 1 /\ ∀ w155, w155 = w153.setCell ⟨r114, 2, none⟩ (.int .i64 n154) ->
  ∃ n156, w155.drew.cell? ⟨r19, 2, none⟩ = some (.int .i64 n156) /\
  needSome p118 fun a157 =>
  ∃ n158, w155.drew.cell? (a157.add 5) = some (.int .i64 n158) /\
  BIf (decide (n156 < n158)) (
  ar w155.drew ⟨r114, 2, none⟩ 1 /\ ∀ w159, w159 = w155.drew.setCell ⟨r114, 2, none⟩ (.int .i64 (0 : Int)) ->
  ar w159 ⟨r114, 1, none⟩ 1 /\ ∀ w160, w160 = w159.setCell ⟨r114, 1, none⟩ (.int .i64 (8 : Int)) ->
  J119 w160) (
  J119 w155.drew)) (
  J119 w116)))))) /\ (
  ∀ w161 : World, J119 w161 -> ∀ _ _ _ _ _ _ _ _ _ _ _ _ _ _ _ _ _ _ _ _ _ _ _ _ _ _ _ _ _ _ _ _ _ _ _ _ _ _ _ _ _ _ _ _ _ _ _ _ _ _ _ _ _ _ _ _ _ _ _ _ _ _ _ _ _ _ : Value,
  needSome n1 fun a228 =>
  ∃ s229, w161.drew.cell? (a228.add 1) = some (Slc.v s229) /\
  needSome n1 fun a230 =>
  ∃ s231, w161.drew.cell? (a230.add 2) = some (Slc.v s231) /\
  ∃ n232 : Int, ∃ n233 : Int, ∃ n234 : Int, ∃ s235 : Slc, rowAt w161.drew ⟨r114, 0, none⟩ 0 [(.int .i64 n232), (.int .i64 n233), (.int .i64 n234), (Slc.v s235)] /\
  (
  aC w161.drew (.cells ⟨[(.int .i64 from2)]⟩ 3) fun r236 w237 =>
  (∃ n238 : Int, ∃ n239 : Int, ∃ n240 : Int, ∃ s241 : Slc, rowAt w237 ⟨r114, 0, none⟩ 0 [(.int .i64 n238), (.int .i64 n239), (.int .i64 n240), (Slc.v s241)] /\
  (Value.agg ⟨[(Value.int .i64 n238), (Value.int .i64 n239), (Value.int .i64 n240), (Slc.v s241)]⟩) = (Value.agg ⟨[(Value.int .i64 n232), (Value.int .i64 n233), (Value.int .i64 n234), (Slc.v s235)]⟩)) /\
  (∃ s242, w237.cell? (a230.add 2) = some (Slc.v s242) /\
  (Slc.v s242) = (Slc.v s231)) /\
  (∃ s243, w237.cell? (a228.add 1) = some (Slc.v s243) /\
  (Slc.v s243) = (Slc.v s229)) /\
  (
  aj 1 3 [(.int .i64 (0 : Int))] w237 s229 (.slc (⟨(some ⟨r236, 0, none⟩), 1, 1⟩ : Slc)) fun s244 w245 =>
  (∃ n246 : Int, ∃ n247 : Int, ∃ n248 : Int, ∃ s249 : Slc, rowAt w245 ⟨r114, 0, none⟩ 0 [(.int .i64 n246), (.int .i64 n247), (.int .i64 n248), (Slc.v s249)] /\
  (Value.agg ⟨[(Value.int .i64 n246), (Value.int .i64 n247), (Value.int .i64 n248), (Slc.v s249)]⟩) = (Value.agg ⟨[(Value.int .i64 n232), (Value.int .i64 n233), (Value.int .i64 n234), (Slc.v s235)]⟩)) /\
  (∃ s250, w245.cell? (a230.add 2) = some (Slc.v s250) /\
  (Slc.v s250) = (Slc.v s231)) /\
  aC w245 (.cells ⟨[(.int .i64 n232), (.int .i64 n233), (.int .i64 n234), (Slc.v s235)]⟩ 37) fun r251 w252 =>
  (∃ s253, w252.cell? (a230.add 2) = some (Slc.v s253) /\
  (Slc.v s253) = (Slc.v s231)) /\
  aj 4 37 [(.int .i64 (0 : Int)), (.int .i64 (0 : Int)), (.int .i64 (0 : Int)), (Slc.v ⟨none, 0, 0⟩)] w252 s231 (.slc (⟨(some ⟨r251, 0, none⟩), 1, 1⟩ : Slc)) fun s254 w255 =>
  needSome n1 fun a256 =>
  ar w255 (a256.add 1) 1 /\ ∀ w257, w257 = w255.setCell (a256.add 1) (Slc.v s244) ->
  needSome n1 fun a258 =>
  ar w257 (a258.add 2) 1 /\ ∀ w259, w259 = w257.setCell (a258.add 2) (Slc.v s254) ->
  ∃ n260 : Int, ∃ n261 : Int, ∃ n262 : Int, ∃ s263 : Slc, rowAt w259 ⟨r114, 0, none⟩ 0 [(.int .i64 n260), (.int .i64 n261), (.int .i64 n262), (Slc.v s263)] /\
  ar w259 ⟨r4, 0, none⟩ 4 /\ ∀ w264, w264 = setCells w259 ⟨r4, 0, none⟩ 0 [(.int .i64 n260), (.int .i64 n261), (.int .i64 n262), (Slc.v s263)] ->
  ∃ n265 : Int, ∃ n266 : Int, ∃ n267 : Int, ∃ s268 : Slc, rowAt w264 ⟨r4, 0, none⟩ 0 [(.int .i64 n265), (.int .i64 n266), (.int .i64 n267), (Slc.v s268)] /\
  K (.tuple ⟨[(.agg ⟨[(.int .i64 n265), (.int .i64 n266), (.int .i64 n267), (Slc.v s268)]⟩), (.bool true)]⟩) w264) /\
  (
  aC w237 (.cells ⟨[(.int .i64 n232), (.int .i64 n233), (.int .i64 n234), (Slc.v s235)]⟩ 37) fun r269 w270 =>
  (∃ s271, w270.cell? (a230.add 2) = some (Slc.v s271) /\
  (Slc.v s271) = (Slc.v s231)) /\
  (∃ s272, w270.cell? (a228.add 1) = some (Slc.v s272) /\
  (Slc.v s272) = (Slc.v s229)) /\
  aj 1 3 [(.int .i64 (0 : Int))] w270 s229 (.slc (⟨(some ⟨r236, 0, none⟩), 1, 1⟩ : Slc)) fun s273 w274 =>
  (∃ s275, w274.cell? (a230.add 2) = some (Slc.v s275) /\
  (Slc.v s275) = (Slc.v s231)) /\
  aj 4 37 [(.int .i64 (0 : Int)), (.int .i64 (0 : Int)), (.int .i64 (0 : Int)), (Slc.v ⟨none, 0, 0⟩)] w274 s231 (.slc (⟨(some ⟨r269, 0, none⟩), 1, 1⟩ : Slc)) fun s276 w277 =>
  needSome n1 fun a278 =>
  ar w277 (a278.add 1) 1 /\ ∀ w279, w279 = w277.setCell (a278.add 1) (Slc.v s273) ->
  needSome n1 fun a280 =>
  ar w279 (a280.add 2) 1 /\ ∀ w281, w281 = w279.setCell (a280.add 2) (Slc.v s276) ->
  ∃ n282 : Int, ∃ n283 : Int, ∃ n284 : Int, ∃ s285 : Slc, rowAt w281 ⟨r114, 0, none⟩ 0 [(.int .i64 n282), (.int .i64 n283), (.int .i64 n284), (Slc.v s285)] /\
  ar w281 ⟨r4, 0, none⟩ 4 /\ ∀ w286, w286 = setCells w281 ⟨r4, 0, none⟩ 0 [(.int .i64 n282), (.int .i64 n283), (.int .i64 n284), (Slc.v s285)] ->
  ∃ n287 : Int, ∃ n288 : Int, ∃ n289 : Int, ∃ s290 : Slc, rowAt w286 ⟨r4, 0, none⟩ 0 [(.int .i64 n287), (.int .i64 n288), (.int .i64 n289), (Slc.v s290)] /\
  K (.tuple ⟨[(.agg ⟨[(.int .i64 n287), (.int .i64 n288), (.int .i64 n289), (Slc.v s290)]⟩), (.bool true)]⟩) w286)) /\
  (
  aC w161.drew (.cells ⟨[(.int .i64 n232), (.int .i64 n233), (.int .i64 n234), (Slc.v s235)]⟩ 37) fun r291 w292 =>
  (∃ s293, w292.cell? (a230.add 2) = some (Slc.v s293) /\
  (Slc.v s293) = (Slc.v s231)) /\
  (∃ s294, w292.cell? (a228.add 1) = some (Slc.v s294) /\
  (Slc.v s294) = (Slc.v s229)) /\
  aC w292 (.cells ⟨[(.int .i64 from2)]⟩ 3) fun r295 w296 =>
  (∃ s297, w296.cell? (a230.add 2) = some (Slc.v s297) /\
  (Slc.v s297) = (Slc.v s231)) /\
  (∃ s298, w296.cell? (a228.add 1) = some (Slc.v s298) /\
  (Slc.v s298) = (Slc.v s229)) /\
  aj 1 3 [(.int .i64 (0 : Int))] w296 s229 (.slc (⟨(some ⟨r295, 0, none⟩), 1, 1⟩ : Slc)) fun s299 w300 =>
  (∃ s301, w300.cell? (a230.add 2) = some (Slc.v s301) /\
  (Slc.v s301) = (Slc.v s231)) /\
  aj 4 37 [(.int .i64 (0 : Int)), (.int .i64 (0 : Int)), (.int .i64 (0 : Int)), (Slc.v ⟨none, 0, 0⟩)] w300 s231 (.slc (⟨(some ⟨r291, 0, none⟩), 1, 1⟩ : Slc)) fun s302 w303 =>
  needSome n1 fun a304 =>
  ar w303 (a304.add 1) 1 /\ ∀ w305, w305 = w303.setCell (a304.add 1) (Slc.v s299) ->
  needSome n1 fun a306 =>
  ar w305 (a306.add 2) 1 /\ ∀ w307, w307 = w305.setCell (a306.add 2) (Slc.v s302) ->
  ∃ n308 : Int, ∃ n309 : Int, ∃ n310 : Int, ∃ s311 : Slc, rowAt w307 ⟨r114, 0, none⟩ 0 [(.int .i64 n308), (.int .i64 n309), (.int .i64 n310), (Slc.v s311)] /\
  ar w307 ⟨r4, 0, none⟩ 4 /\ ∀ w312, w312 = setCells w307 ⟨r4, 0, none⟩ 0 [(.int .i64 n308), (.int .i64 n309), (.int .i64 n310), (Slc.v s311)] ->
  ∃ n313 : Int, ∃ n314 : Int, ∃ n315 : Int, ∃ s316 : Slc, rowAt w312 ⟨r4, 0, none⟩ 0 [(.int .i64 n313), (.int .i64 n314), (.int .i64 n315), (Slc.v s316)] /\
  K (.tuple ⟨[(.agg ⟨[(.int .i64 n313), (.int .i64 n314), (.int .i64 n315), (Slc.v s316)]⟩), (.bool true)]⟩) w312)))))
theorem jD (n1 : Option Addr) (from2 : Int) (b3 : Slc) {w : World} {R : Ending -> World -> Prop} (h : fX n1 from2 b3 w fun v w' => R (.returned v) w') : Calls Tryz.prog cS ⟨[(.pointer n1), (.int .i64 from2), (Slc.v b3)]⟩ w R :=
  ab (ann := (.two .none (.two .none (.cut [] [7, 22, 23, 24, 25, 26, 27, 28] .none (.two (.two .none (.one (.loop [(12, (Sh.int .i64))] ([7] ++ List.range' 36 38) .none))) (.two .none (.two .none (.cut [] (List.range' 81 66) .none .none)))))))) ah mixed Tryz.func10 (Eq.mp (by kernel_rfl) h)
end Go.D

