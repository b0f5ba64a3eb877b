/-
  WHAT IS PROVED: verification conditions of functions of this program, each with its soundness. No further conditions.
-/
import Derived.Test.YtfnibbccnbmkoaaDoorBase
set_option linter.unusedSimpArgs false
set_option maxRecDepth 100000
set_option linter.unusedVariables false
namespace Go.D
open Go Go.Proofs
def en (a1 : Int) (a2 : Int) (a3 : Int) (a4 : Int) (a5 : Slc) (b6 : Int) (b7 : Int) (b8 : Int) (b9 : Int) (b10 : Slc) (w : World) (K : Value -> World -> Prop) : Prop :=
  aK w (.cells ⟨[(.int .i64 a1), (.int .i64 a2), (.int .i64 a3), (.int .i64 a4), a5.v]⟩ 35) fun r11 w12 =>
  aK w12 (.cells ⟨[(.int .i64 b6), (.int .i64 b7), (.int .i64 b8), (.int .i64 b9), b10.v]⟩ 36) fun r13 w14 =>
  ∃ n15, w14.cell? ⟨r11, 0, none⟩ = some (.int .i64 n15) /\
  ∃ n16, w14.cell? ⟨r13, 0, none⟩ = some (.int .i64 n16) /\
  BIf (decide (n15 = n16)) (
  ∃ n17, w14.cell? ⟨r11, 1, none⟩ = some (.int .i64 n17) /\
  ∃ n18, w14.cell? ⟨r13, 1, none⟩ = some (.int .i64 n18) /\
  BIf (decide (n17 = n18)) (
  ∃ n19, w14.cell? ⟨r11, 2, none⟩ = some (.int .i64 n19) /\
  ∃ n20, w14.cell? ⟨r13, 2, none⟩ = some (.int .i64 n20) /\
  BIf (decide (n19 = n20)) (
  ∃ n21, w14.cell? ⟨r11, 3, none⟩ = some (.int .i64 n21) /\
  ∃ n22, w14.cell? ⟨r13, 3, none⟩ = some (.int .i64 n22) /\
  BIf (decide (n21 = n22)) (
  ∃ s23, w14.cell? ⟨r11, 4, none⟩ = some (Slc.v s23) /\
  ∃ t24 : List UInt8, ar w14 s23 t24 /\
  ∃ s25, w14.cell? ⟨r13, 4, none⟩ = some (Slc.v s25) /\
  ∃ t26 : List UInt8, ar w14 s25 t26 /\
  K (.bool (decide (t24 = t26))) w14) (
  K (.bool false) w14)) (
  K (.bool false) w14)) (
  K (.bool false) w14)) (
  K (.bool false) w14)
theorem fM (a1 : Int) (a2 : Int) (a3 : Int) (a4 : Int) (a5 : Slc) (b6 : Int) (b7 : Int) (b8 : Int) (b9 : Int) (b10 : Slc) {w : World} {R : Ending -> World -> Prop} (h : en a1 a2 a3 a4 a5 b6 b7 b8 b9 b10 w fun v w' => R (.returned v) w') : Calls Tryd.prog bE ⟨[(.agg ⟨[(.int .i64 a1), (.int .i64 a2), (.int .i64 a3), (.int .i64 a4), a5.v]⟩), (.agg ⟨[(.int .i64 b6), (.int .i64 b7), (.int .i64 b8), (.int .i64 b9), b10.v]⟩)]⟩ w R :=
  ae (ann := .none) aj mixed Tryd.func9 (Eq.mp (by kernel_rfl) h)
def dY (list1 : Slc) (w : World) (K : Value -> World -> Prop) : Prop :=
  aK w (.cells ⟨[]⟩ 54) fun r2 w3 =>
  aK w3 (.cells ⟨[]⟩ 60) fun r4 w5 =>
  BIf (decide ((60 : Int) < (list1.l : Int))) (
  K (.tuple ⟨[(Slc.v ⟨none, 0, 0⟩), (Slc.v ⟨none, 0, 0⟩), (.bool false)]⟩) w5) (
  ∃ (I6 : (Slc) -> (Slc) -> (Int) -> World -> Prop) (mu7 : (Slc) -> (Slc) -> (Int) -> World -> Nat), I6 ((⟨(some ⟨r2, 0, none⟩), 0, 0⟩ : Slc)) ((⟨(some ⟨r4, 0, none⟩), 0, 0⟩ : Slc)) ((0 : Int)) w5 /\ (
  ∀ a8 : Slc, ∀ b9 : Slc, ∀ i10 : Int, ∀ w11 : World, I6 a8 b9 i10 w11 -> ∀ _ _ _ _ _ _ _ _ _ _ _ _ _ _ _ _ _ _ _ _ _ _ _ _ _ _ _ _ _ _ _ _ _ _ _ _ _ _ _ _ _ _ _ _ _ _ _ _ _ _ _ _ _ _ _ _ _ _ _ _ _ _ _ _ _ _ _ _ : Value,
  BIf (decide (i10 < (list1.l : Int))) (
  needSome list1.p fun a80 =>
  0 <= i10 /\ i10 < (list1.l : Int) /\
  ∃ n81 : Int, ∃ n82 : Int, ∃ n83 : Int, ∃ n84 : Int, ∃ n85 : Int, ∃ n86 : Int, ∃ n87 : Int, ∃ s88 : Slc, ∃ t89 : List UInt8, ∃ n90 : Int, ∃ n91 : Int, ∃ n92 : Int, ∃ s93 : Slc, ∃ b94 : Bool, rowAt w11 (Addr.add a80 ((Int.toNat i10) * 14)) 0 [(.int .i64 n81), (.int .i64 n82), (.int .i64 n83), (.int .i64 n84), (.int .i64 n85), (.int .i64 n86), (.int .i64 n87), s88.v, (aq t89), (.int .i64 n90), (.int .i64 n91), (.int .i64 n92), s93.v, (.bool b94)] /\
  aK w11 (.cells ⟨[(.int .i64 0), (.int .i64 0), (.int .i64 0), (.int .i64 0), (.int .i64 0), (.int .i64 0), (.int .i64 0), (Slc.v ⟨none, 0, 0⟩), (aq ([] : List UInt8)), (.int .i64 0), (.int .i64 0), (.int .i64 0), (Slc.v ⟨none, 0, 0⟩), (.bool false)]⟩ 57) fun r95 w96 =>
  aw w96 ⟨r95, 0, none⟩ 14 /\ ∀ w97, w97 = setCells w96 ⟨r95, 0, none⟩ 0 [(.int .i64 n81), (.int .i64 n82), (.int .i64 n83), (.int .i64 n84), (.int .i64 n85), (.int .i64 n86), (.int .i64 n87), s88.v, (aq t89), (.int .i64 n90), (.int .i64 n91), (.int .i64 n92), s93.v, (.bool b94)] ->
  ∃ n98 : Int, ∃ n99 : Int, ∃ n100 : Int, ∃ n101 : Int, ∃ n102 : Int, ∃ n103 : Int, ∃ s104 : Slc, ∃ t105 : List UInt8, ∃ n106 : Int, ∃ n107 : Int, ∃ n108 : Int, ∃ s109 : Slc, rowAt w97 ⟨r95, 1, none⟩ 0 [(.int .i64 n98), (.int .i64 n99), (.int .i64 n100), (.int .i64 n101), (.int .i64 n102), (.int .i64 n103), s104.v, (aq t105), (.int .i64 n106), (.int .i64 n107), (.int .i64 n108), s109.v] /\
  aK w97 (.cells ⟨[(.int .i64 0), (.int .i64 0), (.int .i64 0), (.int .i64 0), (.int .i64 0), (.int .i64 0), (Slc.v ⟨none, 0, 0⟩), (aq ([] : List UInt8)), (.int .i64 0), (.int .i64 0), (.int .i64 0), (Slc.v ⟨none, 0, 0⟩)]⟩ 50) fun r110 w111 =>
  aw w111 ⟨r110, 0, none⟩ 12 /\ ∀ w112, w112 = setCells w111 ⟨r110, 0, none⟩ 0 [(.int .i64 n98), (.int .i64 n99), (.int .i64 n100), (.int .i64 n101), (.int .i64 n102), (.int .i64 n103), s104.v, (aq t105), (.int .i64 n106), (.int .i64 n107), (.int .i64 n108), s109.v] ->
  ∃ J113 : World -> Prop,
  (
  ∃ n114, w112.cell? ⟨r95, 0, none⟩ = some (.int .i64 n114) /\
  BIf (decide (n114 < 0)) (
  K (.tuple ⟨[(Slc.v ⟨none, 0, 0⟩), (Slc.v ⟨none, 0, 0⟩), (.bool false)]⟩) w112) (
  ∃ n115, w112.cell? ⟨r95, 0, none⟩ = some (.int .i64 n115) /\
  BIf (decide (4095 < n115)) (
  K (.tuple ⟨[(Slc.v ⟨none, 0, 0⟩), (Slc.v ⟨none, 0, 0⟩), (.bool false)]⟩) w112) (
  ∃ s116, w112.cell? ⟨r110, 6, none⟩ = some (Slc.v s116) /\
  BIf (decide ((20 : Int) < (s116.l : Int))) (
  K (.tuple ⟨[(Slc.v ⟨none, 0, 0⟩), (Slc.v ⟨none, 0, 0⟩), (.bool false)]⟩) w112) (
  ∃ t117 : List UInt8, w112.cell? ⟨r110, 7, none⟩ = some (aq t117) /\
  BIf (decide ((300 : Int) < (((List.length t117) : Nat) : Int))) (
  K (.tuple ⟨[(Slc.v ⟨none, 0, 0⟩), (Slc.v ⟨none, 0, 0⟩), (.bool false)]⟩) w112) (
  ∃ s118, w112.cell? ⟨r110, 11, none⟩ = some (Slc.v s118) /\
  BIf (decide ((600 : Int) < (s118.l : Int))) (
  K (.tuple ⟨[(Slc.v ⟨none, 0, 0⟩), (Slc.v ⟨none, 0, 0⟩), (.bool false)]⟩) w112) (
  J113 w112)))))) /\ (
  ∀ w119 : World, J113 w119 -> ∀ _ _ _ _ _ _ _ _ _ _ _ _ _ _ _ _ _ _ _ _ _ _ _ _ _ _ _ _ _ : Value,
  ∃ s149, w119.cell? ⟨r110, 6, none⟩ = some (Slc.v s149) /\
  ∃ (I150 : (Int) -> World -> Prop) (mu151 : (Int) -> World -> Nat), I150 ((0 : Int)) w119 /\ (
  ∀ i152 : Int, ∀ w153 : World, I150 i152 w153 -> ∀ _ _ _ _ _ _ _ _ _ _ _ _ : Value,
  BIf (decide (i152 < (s149.l : Int))) (
  needSome s149.p fun a166 =>
  0 <= i152 /\ i152 < (s149.l : Int) /\
  ∃ n167 : Int, ∃ t168 : List UInt8, ∃ t169 : List UInt8, ∃ t170 : List UInt8, ∃ n171 : Int, rowAt w153 (Addr.add a166 ((Int.toNat i152) * 5)) 0 [(.int .i64 n167), (aq t168), (aq t169), (aq t170), (.int .i64 n171)] /\
  aK w153 (.cells ⟨[(.int .i64 0), (aq ([] : List UInt8)), (aq ([] : List UInt8)), (aq ([] : List UInt8)), (.int .i64 0)]⟩ 59) fun r172 w173 =>
  aw w173 ⟨r172, 0, none⟩ 5 /\ ∀ w174, w174 = setCells w173 ⟨r172, 0, none⟩ 0 [(.int .i64 n167), (aq t168), (aq t169), (aq t170), (.int .i64 n171)] ->
  ∃ t175 : List UInt8, w174.cell? ⟨r172, 1, none⟩ = some (aq t175) /\
  BIf (decide ((300 : Int) < (((List.length t175) : Nat) : Int))) (
  K (.tuple ⟨[(Slc.v ⟨none, 0, 0⟩), (Slc.v ⟨none, 0, 0⟩), (.bool false)]⟩) w174) (
  inR .i64 (i152 + 1) /\
  (I150 ((i152 + 1)) w174 /\ mu151 ((i152 + 1)) w174 < mu151 i152 w153))) (
  ∃ n176, w153.cell? ⟨r95, 0, none⟩ = some (.int .i64 n176) /\
  ∃ n177 : Int, ∃ n178 : Int, ∃ n179 : Int, ∃ n180 : Int, ∃ n181 : Int, ∃ n182 : Int, ∃ s183 : Slc, ∃ t184 : List UInt8, ∃ n185 : Int, ∃ n186 : Int, ∃ n187 : Int, ∃ s188 : Slc, rowAt w153 ⟨r110, 0, none⟩ 0 [(.int .i64 n177), (.int .i64 n178), (.int .i64 n179), (.int .i64 n180), (.int .i64 n181), (.int .i64 n182), s183.v, (aq t184), (.int .i64 n185), (.int .i64 n186), (.int .i64 n187), s188.v] /\
  ∃ b189, w153.cell? ⟨r95, 13, none⟩ = some (.bool b189) /\
  aK w153 (.cells ⟨[(.int .i64 n176), (.int .i64 n177), (.int .i64 n178), (.int .i64 n179), (.int .i64 n180), (.int .i64 n181), (.int .i64 n182), s183.v, (aq t184), (.int .i64 n185), (.int .i64 n186), (.int .i64 n187), s188.v, (Slc.v ⟨none, 0, 0⟩), (.bool b189)]⟩ 54) fun r190 w191 =>
  bA 15 54 [(.int .i64 0), (.int .i64 0), (.int .i64 0), (.int .i64 0), (.int .i64 0), (.int .i64 0), (.int .i64 0), (Slc.v ⟨none, 0, 0⟩), (aq ([] : List UInt8)), (.int .i64 0), (.int .i64 0), (.int .i64 0), (Slc.v ⟨none, 0, 0⟩), (Slc.v ⟨none, 0, 0⟩), (.bool false)] w191 a8 (.slc (⟨(some ⟨r190, 0, none⟩), 1, 1⟩ : Slc)) fun s192 w193 =>
  ∃ n194, w193.cell? ⟨r95, 0, none⟩ = some (.int .i64 n194) /\
  ∃ n195 : Int, ∃ n196 : Int, ∃ n197 : Int, ∃ n198 : Int, ∃ n199 : Int, ∃ n200 : Int, ∃ s201 : Slc, ∃ t202 : List UInt8, ∃ n203 : Int, ∃ n204 : Int, ∃ n205 : Int, ∃ s206 : Slc, rowAt w193 ⟨r110, 0, none⟩ 0 [(.int .i64 n195), (.int .i64 n196), (.int .i64 n197), (.int .i64 n198), (.int .i64 n199), (.int .i64 n200), s201.v, (aq t202), (.int .i64 n203), (.int .i64 n204), (.int .i64 n205), s206.v] /\
  ∃ b207, w193.cell? ⟨r95, 13, none⟩ = some (.bool b207) /\
  aK w193 (.cells ⟨[(.int .i64 n194), (.int .i64 n195), (.int .i64 n196), (.int .i64 n197), (.int .i64 n198), (.int .i64 n199), (.int .i64 n200), s201.v, (aq t202), (.int .i64 n203), (.int .i64 n204), (.int .i64 n205), s206.v, (Slc.v ⟨none, 0, 0⟩), (.bool b207)]⟩ 60) fun r208 w209 =>
  bA 15 60 [(.int .i64 0), (.int .i64 0), (.int .i64 0), (.int .i64 0), (.int .i64 0), (.int .i64 0), (.int .i64 0), (Slc.v ⟨none, 0, 0⟩), (aq ([] : List UInt8)), (.int .i64 0), (.int .i64 0), (.int .i64 0), (Slc.v ⟨none, 0, 0⟩), (Slc.v ⟨none, 0, 0⟩), (.bool false)] w209 b9 (.slc (⟨(some ⟨r208, 0, none⟩), 1, 1⟩ : Slc)) fun s210 w211 =>
  inR .i64 (i10 + 1) /\
  (I6 (s192) (s210) ((i10 + 1)) w211 /\ mu7 (s192) (s210) ((i10 + 1)) w211 < mu7 a8 b9 i10 w11))))) (
  K (.tuple ⟨[a8.v, b9.v, (.bool true)]⟩) w11)))
theorem fu (list1 : Slc) {w : World} {R : Ending -> World -> Prop} (h : dY list1 w fun v w' => R (.returned v) w') : Calls Tryd.prog cg ⟨[list1.v]⟩ w R :=
  ae (ann := (.two .none (.two .none (.two .none (.two (.two .none (.one (.loop [(5, Sh.slc), (6, Sh.slc), (19, (Sh.int .i64))] ([2, 3, 4, 8, 9, 11] ++ List.range' 20 62) (.two .none (.two .none (.two (.one (.two .none (.two .none (.cut [] ([2, 3, 4] ++ List.range' 25 26) .none (.two (.two .none (.one (.loop [(54, (Sh.int .i64))] ([2, 3, 4, 11] ++ List.range' 55 8) .none))) .none))))) .none)))))) .none))))) aj mixed Tryd.func6 (Eq.mp (by kernel_rfl) h)
def cZ (list1 : Slc) (shard2 : Int) (upto3 : Int) (w : World) (K : Value -> World -> Prop) : Prop :=
  Calls Tryd.prog cf ⟨[]⟩ w fun e4 w5 =>
  ∃ b6, e4 = .returned (.bool b6) /\
  BIf (!b6) (
  K (.bool false) w5) (
  Calls Tryd.prog cg ⟨[list1.v]⟩ w5 fun e7 w8 =>
  ∃ s9 : Slc, ∃ s10 : Slc, ∃ b11, e7 = .returned (.tuple ⟨[s9.v, s10.v, (.bool b11)]⟩) /\
  BIf (!b11) (
  K (.bool true) w8) (
  Calls Tryd.prog dJ ⟨[s9.v, (.int .i64 shard2)]⟩ w8 fun e12 w13 =>
  ∃ s14, e12 = .returned (Slc.v s14) /\
  Calls Tryd.prog bD ⟨[s10.v, (.int .i64 shard2)]⟩ w13 fun e15 w16 =>
  ∃ s17, e15 = .returned (Slc.v s17) /\
  BIf (!decide ((s14.l : Int) = (s17.l : Int))) (
  K (.bool false) w16) (
  ∃ (I18 : (Int) -> World -> Prop) (mu19 : (Int) -> World -> Nat), I18 ((0 : Int)) w16 /\ (
  ∀ i20 : Int, ∀ w21 : World, I18 i20 w21 -> ∀ _ _ _ _ _ _ _ _ _ _ _ _ _ _ _ : Value,
  BIf (decide (i20 < (s14.l : Int))) (
  needSome s14.p fun a37 =>
  0 <= i20 /\ i20 < (s14.l : Int) /\
  ∃ n38 : Int, ∃ n39 : Int, ∃ n40 : Int, ∃ n41 : Int, ∃ s42 : Slc, rowAt w21.drew (Addr.add a37 ((Int.toNat i20) * 5)) 0 [(.int .i64 n38), (.int .i64 n39), (.int .i64 n40), (.int .i64 n41), s42.v] /\
  needSome s17.p fun a43 =>
  0 <= i20 /\ i20 < (s17.l : Int) /\
  ∃ n44 : Int, ∃ n45 : Int, ∃ n46 : Int, ∃ n47 : Int, ∃ s48 : Slc, rowAt w21.drew (Addr.add a43 ((Int.toNat i20) * 5)) 0 [(.int .i64 n44), (.int .i64 n45), (.int .i64 n46), (.int .i64 n47), s48.v] /\
  Calls Tryd.prog bE ⟨[(.agg ⟨[(.int .i64 n38), (.int .i64 n39), (.int .i64 n40), (.int .i64 n41), s42.v]⟩), (.agg ⟨[(.int .i64 n44), (.int .i64 n45), (.int .i64 n46), (.int .i64 n47), s48.v]⟩)]⟩ w21.drew fun e49 w50 =>
  ∃ b51, e49 = .returned (.bool b51) /\
  BIf (!b51) (
  K (.bool false) w50) (
  inR .i64 (i20 + 1) /\
  (I18 ((i20 + 1)) w50 /\ mu19 ((i20 + 1)) w50 < mu19 i20 w21))) (
  Calls Tryd.prog eb ⟨[s9.v, (.int .i64 shard2), (.int .i64 upto3)]⟩ w21 fun e52 w53 =>
  ∃ x54 : Int, ∃ x55 : Int, ∃ x56 : Int, ∃ x57 : Int, ∃ x58 : Slc, ∃ b59, e52 = .returned (.tuple ⟨[(.agg ⟨[(.int .i64 x54), (.int .i64 x55), (.int .i64 x56), (.int .i64 x57), x58.v]⟩), (.bool b59)]⟩) /\
  aK w53 (.cells ⟨[(.int .i64 0), (.int .i64 0), (.int .i64 0), (.int .i64 0), (Slc.v ⟨none, 0, 0⟩)]⟩ 35) fun r60 w61 =>
  aw w61 ⟨r60, 0, none⟩ 5 /\ ∀ w62, w62 = setCells w61 ⟨r60, 0, none⟩ 0 [(.int .i64 x54), (.int .i64 x55), (.int .i64 x56), (.int .i64 x57), x58.v] ->
  Calls Tryd.prog bT ⟨[s10.v, (.int .i64 shard2), (.int .i64 upto3)]⟩ w62 fun e63 w64 =>
  ∃ x65 : Int, ∃ x66 : Int, ∃ x67 : Int, ∃ x68 : Int, ∃ x69 : Slc, ∃ b70, e63 = .returned (.tuple ⟨[(.agg ⟨[(.int .i64 x65), (.int .i64 x66), (.int .i64 x67), (.int .i64 x68), x69.v]⟩), (.bool b70)]⟩) /\
  aK w64 (.cells ⟨[(.int .i64 0), (.int .i64 0), (.int .i64 0), (.int .i64 0), (Slc.v ⟨none, 0, 0⟩)]⟩ 36) fun r71 w72 =>
  aw w72 ⟨r71, 0, none⟩ 5 /\ ∀ w73, w73 = setCells w72 ⟨r71, 0, none⟩ 0 [(.int .i64 x65), (.int .i64 x66), (.int .i64 x67), (.int .i64 x68), x69.v] ->
  BIf (b59 == b70) (
  BIf (!b59) (
  K (.bool true) w73) (
  ∃ n74 : Int, ∃ n75 : Int, ∃ n76 : Int, ∃ n77 : Int, ∃ s78 : Slc, rowAt w73 ⟨r60, 0, none⟩ 0 [(.int .i64 n74), (.int .i64 n75), (.int .i64 n76), (.int .i64 n77), s78.v] /\
  ∃ n79 : Int, ∃ n80 : Int, ∃ n81 : Int, ∃ n82 : Int, ∃ s83 : Slc, rowAt w73 ⟨r71, 0, none⟩ 0 [(.int .i64 n79), (.int .i64 n80), (.int .i64 n81), (.int .i64 n82), s83.v] /\
  Calls Tryd.prog bE ⟨[(.agg ⟨[(.int .i64 n74), (.int .i64 n75), (.int .i64 n76), (.int .i64 n77), s78.v]⟩), (.agg ⟨[(.int .i64 n79), (.int .i64 n80), (.int .i64 n81), (.int .i64 n82), s83.v]⟩)]⟩ w73 fun e84 w85 =>
  ∃ b86, e84 = .returned (.bool b86) /\
  K (.bool b86) w85)) (
  K (.bool false) w73))))))
theorem ee (list1 : Slc) (shard2 : Int) (upto3 : Int) {w : World} {R : Ending -> World -> Prop} (h : cZ list1 shard2 upto3 w fun v w' => R (.returned v) w') : Calls Tryd.prog cz ⟨[list1.v, (.int .i64 shard2), (.int .i64 upto3)]⟩ w R :=
  ae (ann := (.two .none (.two .none (.two .none (.two .none (.two .none (.two .none (.two (.two .none (.one (.loop [(40, (Sh.int .i64))] ([6, 12] ++ List.range' 41 13) .none))) .none)))))))) aj mixed Tryd.func3 (Eq.mp (by kernel_rfl) h)
end Go.D

