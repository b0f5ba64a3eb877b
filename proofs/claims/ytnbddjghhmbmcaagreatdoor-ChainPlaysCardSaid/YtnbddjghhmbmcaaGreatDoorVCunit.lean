/-
  WHAT IS PROVED: verification conditions of functions of this program, each with its soundness. No further conditions.
-/
import Derived.Test.YtnbddjghhmbmcaaGreatDoorBase
set_option linter.unusedSimpArgs false
set_option maxRecDepth 100000
set_option linter.unusedVariables false
namespace Go.D
open Go Go.Proofs
def qu (u1 : Option Addr) (segment2 : Int) (at3 : Int) (b4 : Slc) (w : World) (K : Value -> World -> Prop) : Prop :=
  needSome u1 fun a5 =>
  ∃ m6 : Option Nat, w.drew.cell? (a5.add 2) = some (Value.map m6) /\
  needSome u1 fun a7 =>
  ∃ m8 : Option Nat, w.drew.cell? (a7.add 2) = some (Value.map m8) /\
  ∃ es9 : Array MapEntry, mapIs w.drew m8 es9 /\
  ∃ q10 : Option (Slc), iw (.int .i64) (.int .i64 segment2) es9 = some (Option.map (Sh.v Sh.slc) q10) /\
  aA w.drew (.cells ⟨[(.int .i64 at3)]⟩ 3) fun r11 w12 =>
  (∃ es13 : Array MapEntry, mapIs w12 m8 es13 /\
  ∃ q14 : Option (Slc), iw (.int .i64) (.int .i64 segment2) es13 = some (Option.map (Sh.v Sh.slc) q14) /\
  (Slc.v (Option.getD q14 ⟨none, 0, 0⟩)) = (Slc.v (Option.getD q10 ⟨none, 0, 0⟩))) /\
  (∃ m15 : Option Nat, w12.cell? (a7.add 2) = some (Value.map m15) /\
  (Value.map m15) = (Value.map m8)) /\
  (∃ m16 : Option Nat, w12.cell? (a5.add 2) = some (Value.map m16) /\
  (Value.map m16) = (Value.map m6)) /\
  ak 1 3 [(.int .i64 0)] w12 (Option.getD q10 ⟨none, 0, 0⟩) (.slc (⟨(some ⟨r11, 0, none⟩), 1, 1⟩ : Slc)) fun s17 w18 =>
  (∃ m19 : Option Nat, w18.cell? (a5.add 2) = some (Value.map m19) /\
  (Value.map m19) = (Value.map m6)) /\
  ∃ (mb20 : Nat) (es21 : Array MapEntry) (ck22 : Nat) (es23 : Array MapEntry) (ck24 : Nat), m6 = some mb20 /\ (World.heap (w18))[mb20]? = some (.map es21 ck22) /\ mapPut (.int .i64) (.int .i64 segment2) (Slc.v s17) es21 ck22 = some (es23, ck24) /\ ∀ w25, w25 = bu w18 mb20 (.map es23 ck24) ->
  needSome u1 fun a26 =>
  ∃ n27, w25.cell? (a26.add 5) = some (.int .i64 n27) /\
  inR .i64 (at3 + 1) /\
  needSome u1 fun a28 =>
  aw w25 (a28.add 5) 1 /\ ∀ w29, w29 = w25.setCell (a28.add 5) (.int .i64 (if (at3 + 1) > n27 then (at3 + 1) else n27)) ->
  needSome u1 fun a30 =>
  ∃ m31 : Option Nat, w29.cell? (a30.add 1) = some (Value.map m31) /\
  ∃ es32 : Array MapEntry, mapIs w29 m31 es32 /\
  ∃ q33 : Option (Slc), iw (.int .i64) (.int .i64 at3) es32 = some (Option.map (Sh.v Sh.slc) q33) /\
  BIf (!(Option.isSome q33)) (
  needSome u1 fun a34 =>
  ∃ m35 : Option Nat, w29.cell? (a34.add 1) = some (Value.map m35) /\
  ∃ (mb36 : Nat) (es37 : Array MapEntry) (ck38 : Nat) (es39 : Array MapEntry) (ck40 : Nat), m35 = some mb36 /\ (World.heap (w29))[mb36]? = some (.map es37 ck38) /\ mapPut (.int .i64) (.int .i64 at3) b4.v es37 ck38 = some (es39, ck40) /\ ∀ w41, w41 = bu w29 mb36 (.map es39 ck40) ->
  K (.tuple #[]) w41) (
  K (.tuple #[]) w29)
theorem tq (u1 : Option Addr) (segment2 : Int) (at3 : Int) (b4 : Slc) {w : World} {R : Ending -> World -> Prop} (h : qu u1 segment2 at3 b4 w fun v w' => R (.returned v) w') : Calls Tryz.prog gh ⟨[(.pointer u1), (.int .i64 segment2), (.int .i64 at3), b4.v]⟩ w R :=
  ab (ann := .none) ag mixed Tryz.func85 (Eq.mp (by kernel_rfl) h)
def qv (u1 : Option Addr) (segment2 : Int) (b3 : Slc) (w : World) (K : Value -> World -> Prop) : Prop :=
  Calls Tryz.prog oN ⟨[b3.v]⟩ w fun e4 w5 =>
  ∃ p6, e4 = .returned (.pointer p6) /\
  Calls Tryz.prog dS ⟨[(.pointer p6), (.int .i64 3)]⟩ w5 fun e7 w8 =>
  ∃ n9, e7 = .returned (.int .i64 n9) /\
  Calls Tryz.prog dS ⟨[(.pointer p6), (.int .i64 1073741824)]⟩ w8 fun e10 w11 =>
  ∃ n12, e10 = .returned (.int .i64 n12) /\
  ∃ J13 : (List UInt8) -> (Int) -> World -> Prop,
  (
  BIf (decide (n9 = 1)) (
  Calls Tryz.prog ik ⟨[(.pointer p6), (.int .i64 2048)]⟩ w11 fun e14 w15 =>
  ∃ t16 : List UInt8, e14 = .returned (dA t16) /\
  J13 (t16) (n12) w15) (
  BIf (decide (n9 = 2)) (
  Calls Tryz.prog dS ⟨[(.pointer p6), (.int .i64 1073741824)]⟩ w11 fun e17 w18 =>
  ∃ n19, e17 = .returned (.int .i64 n19) /\
  J13 (([] : List UInt8)) (n19) w18) (
  J13 (([] : List UInt8)) (n12) w11))) /\ (
  ∀ text20 : List UInt8, ∀ epoch21 : Int, ∀ w22 : World, J13 text20 epoch21 w22 -> ∀ _ _ _ _ _ _ _ _ _ : Value,
  Calls Tryz.prog jd ⟨[(.pointer p6)]⟩ w22 fun e32 w33 =>
  ∃ e34, e32 = .returned e34 /\
  isI e34 /\
  BIf (!isNilI e34) (
  ∃ v35, w33.cell? ⟨aH, 0, none⟩ = some v35 /\
  K v35 w33) (
  BIf (decide (n9 = 1)) (
  BIf (decide (4096 <= n12)) (
  ∃ v36, w33.cell? ⟨aH, 0, none⟩ = some v36 /\
  K v36 w33) (
  BIf (decide (text20 = ([] : List UInt8))) (
  ∃ v37, w33.cell? ⟨aH, 0, none⟩ = some v37 /\
  K v37 w33) (
  dD Tryz.prog 5 text20 w33 fun s38 w39 =>
  Calls Tryz.prog gh ⟨[(.pointer u1), (.int .i64 segment2), (.int .i64 n12), (Slc.v s38)]⟩ w39 fun e40 w41 =>
  e40 = .returned (.tuple #[]) /\
  K .nilIface w41))) (
  BIf (decide (n9 = 2)) (
  BIf (decide (4096 < n12)) (
  ∃ v42, w33.cell? ⟨aH, 0, none⟩ = some v42 /\
  K v42 w33) (
  needSome u1 fun a43 =>
  aw w33 (a43.add 3) 1 /\ ∀ w44, w44 = w33.setCell (a43.add 3) (.int .i64 n12) ->
  needSome u1 fun a45 =>
  aw w44 (a45.add 4) 1 /\ ∀ w46, w46 = w44.setCell (a45.add 4) (.int .i64 epoch21) ->
  K .nilIface w46)) (
  BIf (decide (n9 = 3)) (
  needSome u1 fun a47 =>
  aw w33 (a47.add 4) 1 /\ ∀ w48, w48 = w33.setCell (a47.add 4) (.int .i64 epoch21) ->
  K .nilIface w48) (
  ∃ v49, w33.cell? ⟨aH, 0, none⟩ = some v49 /\
  K v49 w33)))))
theorem tu (u1 : Option Addr) (segment2 : Int) (b3 : Slc) {w : World} {R : Ending -> World -> Prop} (h : qv u1 segment2 b3 w fun v w' => R (.returned v) w') : Calls Tryz.prog ja ⟨[(.pointer u1), (.int .i64 segment2), b3.v]⟩ w R :=
  ab (ann := (.two .none (.two .none (.two .none (.two .none (.two .none (.cut [(10, Sh.str), (11, (Sh.int .i64))] (List.range' 19 9) .none .none))))))) ag mixed Tryz.func80 (Eq.mp (by kernel_rfl) h)
def zQ (d1 : Option Addr) (w : World) (K : Value -> World -> Prop) : Prop :=
  Calls Tryz.prog kY ⟨[(.pointer d1)]⟩ w fun e2 w3 =>
  ∃ p4 : Option Addr, ∃ e5, e2 = .returned (.tuple ⟨[(.pointer p4), e5]⟩) /\
  isI e5 /\
  BIf (!isNilI e5) (
  K (.tuple ⟨[(.pointer none), e5]⟩) w3) (
  aA w3 (.map #[] 0) fun r6 w7 =>
  aA w7 (.map #[] 0) fun r8 w9 =>
  aA w9 (.cells ⟨[(.pointer p4), (Value.map (some r6)), (Value.map (some r8)), (.int .i64 0), (.int .i64 0), (.int .i64 0)]⟩ 108) fun r10 w11 =>
  Calls Tryz.prog dH ⟨[(.pointer p4)]⟩ w11 fun e12 w13 =>
  ∃ s14, e12 = .returned (Slc.v s14) /\
  ∃ (I15 : (Int) -> World -> Prop) (mu16 : (Int) -> World -> Nat), I15 ((0 : Int)) w13 /\ (
  ∀ i17 : Int, ∀ w18 : World, I15 i17 w18 -> ∀ _ _ _ _ _ _ _ _ _ _ _ _ _ _ _ _ _ _ _ _ _ _ _ _ _ : Value,
  BIf (decide (i17 < (s14.l : Int))) (
  needSome s14.p fun a44 =>
  0 <= i17 /\ i17 < (s14.l : Int) /\
  ∃ n45, w18.cell? (Addr.add a44 ((Int.toNat i17) * 1)) = some (.int .i64 n45) /\
  Calls Tryz.prog fY ⟨[(.pointer p4), (.int .i64 n45)]⟩ w18 fun e46 w47 =>
  ∃ s48, e46 = .returned (Slc.v s48) /\
  ∃ (I49 : (Int) -> World -> Prop) (mu50 : (Int) -> World -> Nat), I49 ((0 : Int)) w47 /\ (
  ∀ i51 : Int, ∀ w52 : World, I49 i51 w52 -> ∀ _ _ _ _ _ _ _ _ _ _ _ _ _ _ _ : Value,
  BIf (decide (i51 < (s48.l : Int))) (
  needSome s48.p fun a68 =>
  0 <= i51 /\ i51 < (s48.l : Int) /\
  ∃ s69, w52.cell? (Addr.add a68 ((Int.toNat i51) * 1)) = some (Slc.v s69) /\
  Calls Tryz.prog ja ⟨[(.pointer (some ⟨r10, 0, none⟩)), (.int .i64 n45), s69.v]⟩ w52 fun e70 w71 =>
  ∃ e72, e70 = .returned e72 /\
  isI e72 /\
  BIf (!isNilI e72) (
  K (.tuple ⟨[(.pointer none), e72]⟩) w71) (
  inR .i64 (i51 + 1) /\
  (I49 ((i51 + 1)) w71 /\ mu50 ((i51 + 1)) w71 < mu50 i51 w52))) (
  inR .i64 (i17 + 1) /\
  (I15 ((i17 + 1)) w52 /\ mu16 ((i17 + 1)) w52 < mu16 i17 w18)))) (
  Calls Tryz.prog eY ⟨[(.pointer (some ⟨r10, 0, none⟩))]⟩ w18 fun e73 w74 =>
  e73 = .returned (.tuple #[]) /\
  K (.tuple ⟨[(.pointer (some ⟨r10, 0, none⟩)), .nilIface]⟩) w74)))
theorem AE (d1 : Option Addr) {w : World} {R : Ending -> World -> Prop} (h : zQ d1 w fun v w' => R (.returned v) w') : Calls Tryz.prog kX ⟨[(.pointer d1)]⟩ w R :=
  ab (ann := (.two .none (.two .none (.two .none (.two .none (.two (.two .none (.one (.loop [(28, (Sh.int .i64))] ([2, 3, 8, 10, 11] ++ List.range' 29 20) (.two .none (.two .none (.two (.one (.two .none (.two .none (.one (.loop [(36, (Sh.int .i64))] ([2, 3, 10, 11] ++ List.range' 37 11) .none))))) .none)))))) .none)))))) ag mixed Tryz.func45 (Eq.mp (by kernel_rfl) h)
def nN (u1 : Option Addr) (w : World) (K : Value -> World -> Prop) : Prop :=
  needSome u1 fun a2 =>
  ∃ m3 : Option Nat, w.cell? (a2.add 1) = some (Value.map m3) /\
  ∃ it4 : Obj, Ap w m3 it4 /\
  aA w (it4) fun r5 w6 =>
  ∃ (I7 : World -> Prop) (mu8 : World -> Nat), I7 w6 /\ (
  ∀ w9 : World, I7 w9 -> ∀ _ _ _ _ _ _ _ _ _ _ _ _ _ _ _ _ : Value,
  Dw w9 r5 (fun kk26 vv27 w28 =>
  ∃ kk29 vv30 : Value, wq w28 r5 (.tuple ⟨[kk29, vv30]⟩) /\
  Sh.dec (Sh.int .i64) kk29 fun (n31 : Int) =>
  needSome u1 fun a32 =>
  ∃ n33, w28.cell? (a32.add 3) = some (.int .i64 n33) /\
  BIf (decide (n31 < n33)) (
  needSome u1 fun a34 =>
  ∃ m35 : Option Nat, w28.cell? (a34.add 1) = some (Value.map m35) /\
  ∃ (mb36 : Nat) (es37 : Array MapEntry) (ck38 : Nat) (es39 : Array MapEntry), m35 = some mb36 /\ (World.heap (w28))[mb36]? = some (.map es37 ck38) /\ mX (.int .i64) (.int .i64 n31) es37 = some es39 /\ ∀ w40, w40 = bu w28 mb36 (.map es39 ck38) ->
  (I7 w40 /\ mu8 w40 < mu8 w9)) (
  (I7 w28 /\ mu8 w28 < mu8 w9))) (
  K (.tuple #[]) w9))
theorem rl (u1 : Option Addr) {w : World} {R : Ending -> World -> Prop} (h : nN u1 w fun v w' => R (.returned v) w') : Calls Tryz.prog eY ⟨[(.pointer u1)]⟩ w R :=
  ab (ann := (.two .none (.one (.loop [] ([2] ++ List.range' 8 15) .none)))) ag mixed Tryz.func61 (Eq.mp (by kernel_rfl) h)
def pH (u1 : Option Addr) (epoch2 : Int) (at3 : Int) (most4 : Int) (w : World) (K : Value -> World -> Prop) : Prop :=
  ∃ J5 : (Bool) -> World -> Prop,
  (
  needSome u1 fun a6 =>
  ∃ n7, w.cell? (a6.add 4) = some (.int .i64 n7) /\
  BIf (decide (epoch2 < n7)) (
  J5 (true) w) (
  J5 ((decide (1073741824 < epoch2))) w)) /\ (
  ∀ x8 : Bool, ∀ w9 : World, J5 x8 w9 -> ∀ _ _ _ _ _ _ _ _ _ _ : Value,
  BIf x8 (
  ∃ v20, w9.cell? ⟨fN, 0, none⟩ = some v20 /\
  K v20 w9) (
  BIf (decide (at3 < 0)) (
  ∃ v21, w9.cell? ⟨aD, 0, none⟩ = some v21 /\
  K v21 w9) (
  BIf (decide (most4 < at3)) (
  ∃ v22, w9.cell? ⟨aD, 0, none⟩ = some v22 /\
  K v22 w9) (
  K .nilIface w9))))
theorem rZ (u1 : Option Addr) (epoch2 : Int) (at3 : Int) (most4 : Int) {w : World} {R : Ending -> World -> Prop} (h : pH u1 epoch2 at3 most4 w fun v w' => R (.returned v) w') : Calls Tryz.prog dQ ⟨[(.pointer u1), (.int .i64 epoch2), (.int .i64 at3), (.int .i64 most4)]⟩ w R :=
  ab (ann := (.two .none (.two (.one (.cut [(9, Sh.bool)] (List.range' 10 10) .none .none)) .none))) ag mixed Tryz.func56 (Eq.mp (by kernel_rfl) h)
def nO (u1 : Option Addr) (kind2 : Int) (n3 : Int) (text4 : Slc) (w : World) (K : Value -> World -> Prop) : Prop :=
  aA w (.cells ⟨[(Slc.v ⟨none, 0, 0⟩), .nilIface]⟩ 159) fun r5 w6 =>
  Calls Tryz.prog cE ⟨[(.pointer (some ⟨r5, 0, none⟩)), (.int .i64 kind2)]⟩ w6 fun e7 w8 =>
  e7 = .returned (.tuple #[]) /\
  Calls Tryz.prog cE ⟨[(.pointer (some ⟨r5, 0, none⟩)), (.int .i64 n3)]⟩ w8 fun e9 w10 =>
  e9 = .returned (.tuple #[]) /\
  ∃ J11 : World -> Prop,
  (
  BIf (decide (kind2 = 1)) (
  ∃ t12 : List UInt8, au w10 text4 t12 /\
  Calls Tryz.prog fg ⟨[(.pointer (some ⟨r5, 0, none⟩)), (dA t12)]⟩ w10 fun e13 w14 =>
  e13 = .returned (.tuple #[]) /\
  J11 w14) (
  BIf (decide (kind2 = 2)) (
  needSome u1 fun a15 =>
  ∃ n16, w10.cell? (a15.add 4) = some (.int .i64 n16) /\
  Calls Tryz.prog cE ⟨[(.pointer (some ⟨r5, 0, none⟩)), (.int .i64 n16)]⟩ w10 fun e17 w18 =>
  e17 = .returned (.tuple #[]) /\
  J11 w18) (
  J11 w10))) /\ (
  ∀ w19 : World, J11 w19 -> ∀ _ _ _ _ _ _ _ _ _ _ _ _ _ _ _ : Value,
  Calls Tryz.prog jH ⟨[(.pointer (some ⟨r5, 0, none⟩))]⟩ w19 fun e35 w36 =>
  ∃ s37 : Slc, ∃ e38, e35 = .returned (.tuple ⟨[s37.v, e38]⟩) /\
  isI e38 /\
  BIf (!isNilI e38) (
  K (.tuple ⟨[(.int .i64 0), e38]⟩) w36) (
  needSome u1 fun a39 =>
  ∃ p40 : Option Addr, w36.cell? a39 = some (.pointer p40) /\
  Calls Tryz.prog jU ⟨[(.pointer p40), s37.v]⟩ w36 fun e41 w42 =>
  ∃ n43 : Int, ∃ e44, e41 = .returned (.tuple ⟨[(.int .i64 n43), e44]⟩) /\
  K (.tuple ⟨[(.int .i64 n43), e44]⟩) w42))
theorem rm (u1 : Option Addr) (kind2 : Int) (n3 : Int) (text4 : Slc) {w : World} {R : Ending -> World -> Prop} (h : nO u1 kind2 n3 text4 w fun v w' => R (.returned v) w') : Calls Tryz.prog dB ⟨[(.pointer u1), (.int .i64 kind2), (.int .i64 n3), text4.v]⟩ w R :=
  ab (ann := (.two .none (.two .none (.two .none (.two .none (.cut [] (List.range' 21 15) .none .none)))))) ag mixed Tryz.func60 (Eq.mp (by kernel_rfl) h)
def pI (u1 : Option Addr) (epoch2 : Int) (at3 : Int) (b4 : Slc) (w : World) (K : Value -> World -> Prop) : Prop :=
  Calls Tryz.prog dQ ⟨[(.pointer u1), (.int .i64 epoch2), (.int .i64 at3), (.int .i64 4095)]⟩ w fun e5 w6 =>
  ∃ e7, e5 = .returned e7 /\
  isI e7 /\
  BIf (!isNilI e7) (
  K e7 w6) (
  needSome u1 fun a8 =>
  ∃ m9 : Option Nat, w6.cell? (a8.add 1) = some (Value.map m9) /\
  ∃ es10 : Array MapEntry, mapIs w6 m9 es10 /\
  ∃ q11 : Option (Slc), iw (.int .i64) (.int .i64 at3) es10 = some (Option.map (Sh.v Sh.slc) q11) /\
  ∃ J12 : World -> Prop,
  (
  ∃ J13 : (Bool) -> World -> Prop,
  (
  BIf (decide ((b4.l : Int) = (0 : Int))) (
  J13 (true) w6) (
  J13 ((decide ((2048 : Int) < (b4.l : Int)))) w6)) /\ (
  ∀ x14 : Bool, ∀ w15 : World, J13 x14 w15 -> ∀ _ _ _ _ _ _ _ _ : Value,
  BIf x14 (
  ∃ v24, w15.cell? ⟨jJ, 0, none⟩ = some v24 /\
  K v24 w15) (
  needSome u1 fun a25 =>
  ∃ n26, w15.cell? (a25.add 3) = some (.int .i64 n26) /\
  BIf (decide (at3 < n26)) (
  ∃ v27, w15.cell? ⟨eL, 0, none⟩ = some v27 /\
  K v27 w15) (
  BIf (Option.isSome q11) (
  ∃ v28, w15.cell? ⟨eK, 0, none⟩ = some v28 /\
  K v28 w15) (
  J12 w15))))) /\ (
  ∀ w29 : World, J12 w29 -> ∀ _ _ _ _ _ _ _ _ _ _ _ _ _ _ _ _ _ _ _ _ _ _ : Value,
  Calls Tryz.prog dB ⟨[(.pointer u1), (.int .i64 1), (.int .i64 at3), b4.v]⟩ w29 fun e52 w53 =>
  ∃ n54 : Int, ∃ e55, e52 = .returned (.tuple ⟨[(.int .i64 n54), e55]⟩) /\
  isI e55 /\
  BIf (isNilI e55) (
  Calls Tryz.prog aQ ⟨[b4.v]⟩ w53 fun e56 w57 =>
  ∃ s58, e56 = .returned (Slc.v s58) /\
  Calls Tryz.prog gh ⟨[(.pointer u1), (.int .i64 n54), (.int .i64 at3), s58.v]⟩ w57 fun e59 w60 =>
  e59 = .returned (.tuple #[]) /\
  K e55 w60) (
  K e55 w53)))
theorem se (u1 : Option Addr) (epoch2 : Int) (at3 : Int) (b4 : Slc) {w : World} {R : Ending -> World -> Prop} (h : pI u1 epoch2 at3 b4 w fun v w' => R (.returned v) w') : Calls Tryz.prog iz ⟨[(.pointer u1), (.int .i64 epoch2), (.int .i64 at3), b4.v]⟩ w R :=
  ab (ann := (.two .none (.two .none (.two .none (.cut [] ([8] ++ List.range' 30 21) (.one (.cut [(30, Sh.bool)] (List.range' 31 8) .none .none)) .none))))) ag mixed Tryz.func54 (Eq.mp (by kernel_rfl) h)
def qw (u1 : Option Addr) (epoch2 : Int) (at3 : Int) (w : World) (K : Value -> World -> Prop) : Prop :=
  Calls Tryz.prog dQ ⟨[(.pointer u1), (.int .i64 epoch2), (.int .i64 at3), (.int .i64 4095)]⟩ w fun e4 w5 =>
  ∃ e6, e4 = .returned e6 /\
  isI e6 /\
  BIf (!isNilI e6) (
  K (.tuple ⟨[(Slc.v ⟨none, 0, 0⟩), e6]⟩) w5) (
  needSome u1 fun a7 =>
  ∃ m8 : Option Nat, w5.cell? (a7.add 1) = some (Value.map m8) /\
  ∃ es9 : Array MapEntry, mapIs w5 m8 es9 /\
  ∃ q10 : Option (Slc), iw (.int .i64) (.int .i64 at3) es9 = some (Option.map (Sh.v Sh.slc) q10) /\
  needSome u1 fun a11 =>
  ∃ n12, w5.cell? (a11.add 3) = some (.int .i64 n12) /\
  BIf (decide (at3 < n12)) (
  ∃ v13, w5.drew.cell? ⟨eL, 0, none⟩ = some v13 /\
  K (.tuple ⟨[(Slc.v ⟨none, 0, 0⟩), v13]⟩) w5.drew) (
  BIf (!(Option.isSome q10)) (
  ∃ v14, w5.drew.cell? ⟨ez, 0, none⟩ = some v14 /\
  K (.tuple ⟨[(Slc.v ⟨none, 0, 0⟩), v14]⟩) w5.drew) (
  Calls Tryz.prog aQ ⟨[(Slc.v (Option.getD q10 ⟨none, 0, 0⟩))]⟩ w5 fun e15 w16 =>
  ∃ s17, e15 = .returned (Slc.v s17) /\
  K (.tuple ⟨[s17.v, .nilIface]⟩) w16)))
theorem tv (u1 : Option Addr) (epoch2 : Int) (at3 : Int) {w : World} {R : Ending -> World -> Prop} (h : qw u1 epoch2 at3 w fun v w' => R (.returned v) w') : Calls Tryz.prog cq ⟨[(.pointer u1), (.int .i64 epoch2), (.int .i64 at3)]⟩ w R :=
  ab (ann := .none) ag mixed Tryz.func29 (Eq.mp (by kernel_rfl) h)
def kK (at1 : Int) (cap2 : Option Addr) (w : World) (K : Value -> World -> Prop) : Prop :=
  needSome cap2 fun a3 =>
  ∃ p4 : Option Addr, w.cell? a3 = some (.pointer p4) /\
  needSome p4 fun a5 =>
  ∃ n6, w.cell? (a5.add 3) = some (.int .i64 n6) /\
  K (.bool (decide (n6 <= at1))) w
theorem oQ (at1 : Int) (cap2 : Option Addr) {w : World} {R : Ending -> World -> Prop} (h : kK at1 cap2 w fun v w' => R (.returned v) w') : Calls Tryz.prog fI ⟨[(.int .i64 at1), (.pointer cap2)]⟩ w R :=
  ab (ann := .none) ag mixed Tryz.func91 (Eq.mp (by kernel_rfl) h)
def cl (s1 : Slc) (c2 : Option Addr) (w : World) (K : Value -> World -> Prop) : Prop :=
  Calls Tryz.prog bY ⟨[s1.v, (.func (.func 91) ⟨[]⟩ ⟨[(.pointer c2)]⟩)]⟩ w fun e3 w4 =>
  ∃ n5, e3 = .returned (.int .i64 n5) /\
  K (.bool (decide (0 <= n5))) w4
theorem eM (s1 : Slc) (c2 : Option Addr) {w : World} {R : Ending -> World -> Prop} (h : cl s1 c2 w fun v w' => R (.returned v) w') : Calls Tryz.prog bj ⟨[s1.v, (.func (.func 91) ⟨[]⟩ ⟨[(.pointer c2)]⟩)]⟩ w R :=
  ab (ann := .none) ag mixed Tryz.func49 (Eq.mp (by kernel_rfl) h)
def cM (s1 : Slc) (c2 : Option Addr) (w : World) (K : Value -> World -> Prop) : Prop :=
  ∃ (I3 : (Int) -> World -> Prop) (mu4 : (Int) -> World -> Nat), I3 ((0 : Int)) w /\ (
  ∀ i5 : Int, ∀ w6 : World, I3 i5 w6 -> ∀ _ _ _ _ _ _ _ _ _ _ _ _ : Value,
  BIf (decide (i5 < (s1.l : Int))) (
  needSome s1.p fun a19 =>
  0 <= i5 /\ i5 < (s1.l : Int) /\
  ∃ n20, w6.cell? (Addr.add a19 ((Int.toNat i5) * 1)) = some (.int .i64 n20) /\
  Calls Tryz.prog fI ⟨[(.int .i64 n20), (.pointer c2)]⟩ w6 fun e21 w22 =>
  ∃ b23, e21 = .returned (.bool b23) /\
  BIf b23 (
  K (.int .i64 i5) w22) (
  inR .i64 (i5 + 1) /\
  (I3 ((i5 + 1)) w22 /\ mu4 ((i5 + 1)) w22 < mu4 i5 w6))) (
  K (.int .i64 (-1 : Int)) w6))
theorem fm (s1 : Slc) (c2 : Option Addr) {w : World} {R : Ending -> World -> Prop} (h : cM s1 c2 w fun v w' => R (.returned v) w') : Calls Tryz.prog bY ⟨[s1.v, (.func (.func 91) ⟨[]⟩ ⟨[(.pointer c2)]⟩)]⟩ w R :=
  ab (ann := (.two .none (.two (.two .none (.one (.loop [(8, (Sh.int .i64))] ([4, 5] ++ List.range' 9 10) .none))) .none))) ag mixed Tryz.func81 (Eq.mp (by kernel_rfl) h)
def mE (u1 : Option Addr) (w : World) (K : Value -> World -> Prop) : Prop :=
  aA w (.cells ⟨[(.pointer u1)]⟩ 65) fun r2 w3 =>
  ∃ p4 : Option Addr, w3.cell? ⟨r2, 0, none⟩ = some (.pointer p4) /\
  needSome p4 fun a5 =>
  ∃ p6 : Option Addr, w3.cell? a5 = some (.pointer p6) /\
  Calls Tryz.prog dH ⟨[(.pointer p6)]⟩ w3 fun e7 w8 =>
  ∃ s9, e7 = .returned (Slc.v s9) /\
  ∃ (I10 : (Int) -> World -> Prop) (mu11 : (Int) -> World -> Nat), I10 ((0 : Int)) w8 /\ (
  ∀ i12 : Int, ∀ w13 : World, I10 i12 w13 -> ∀ _ _ _ _ _ _ _ _ _ _ _ _ _ _ _ _ _ _ _ _ _ _ _ _ _ _ _ _ _ _ _ _ _ _ _ _ _ _ : Value,
  BIf (decide (i12 < (s9.l : Int))) (
  needSome s9.p fun a52 =>
  0 <= i12 /\ i12 < (s9.l : Int) /\
  ∃ n53, w13.cell? (Addr.add a52 ((Int.toNat i12) * 1)) = some (.int .i64 n53) /\
  ∃ J54 : World -> Prop,
  (
  ∃ p55 : Option Addr, w13.cell? ⟨r2, 0, none⟩ = some (.pointer p55) /\
  needSome p55 fun a56 =>
  ∃ p57 : Option Addr, w13.cell? a56 = some (.pointer p57) /\
  Calls Tryz.prog fH ⟨[(.pointer p57)]⟩ w13 fun e58 w59 =>
  ∃ n60, e58 = .returned (.int .i64 n60) /\
  BIf (decide (n53 = n60)) (
  K .nilIface w59) (
  ∃ p61 : Option Addr, w59.cell? ⟨r2, 0, none⟩ = some (.pointer p61) /\
  needSome p61 fun a62 =>
  ∃ m63 : Option Nat, w59.cell? (a62.add 2) = some (Value.map m63) /\
  ∃ es64 : Array MapEntry, mapIs w59 m63 es64 /\
  ∃ q65 : Option (Slc), iw (.int .i64) (.int .i64 n53) es64 = some (Option.map (Sh.v Sh.slc) q65) /\
  Calls Tryz.prog bj ⟨[(Slc.v (Option.getD q65 ⟨none, 0, 0⟩)), (.func (.func 91) ⟨[]⟩ ⟨[(.pointer (some ⟨r2, 0, none⟩))]⟩)]⟩ w59 fun e66 w67 =>
  ∃ b68, e66 = .returned (.bool b68) /\
  BIf b68 (
  K .nilIface w67) (
  J54 w67))) /\ (
  ∀ w69 : World, J54 w69 -> ∀ _ _ _ _ _ _ _ _ _ _ _ _ _ _ _ _ _ _ : Value,
  ∃ p88 : Option Addr, w69.cell? ⟨r2, 0, none⟩ = some (.pointer p88) /\
  needSome p88 fun a89 =>
  ∃ p90 : Option Addr, w69.cell? a89 = some (.pointer p90) /\
  Calls Tryz.prog iB ⟨[(.pointer p90), (.int .i64 n53)]⟩ w69 fun e91 w92 =>
  ∃ e93, e91 = .returned e93 /\
  isI e93 /\
  BIf (!isNilI e93) (
  K e93 w92) (
  ∃ p94 : Option Addr, w92.cell? ⟨r2, 0, none⟩ = some (.pointer p94) /\
  needSome p94 fun a95 =>
  ∃ m96 : Option Nat, w92.cell? (a95.add 2) = some (Value.map m96) /\
  ∃ (mb97 : Nat) (es98 : Array MapEntry) (ck99 : Nat) (es100 : Array MapEntry), m96 = some mb97 /\ (World.heap (w92))[mb97]? = some (.map es98 ck99) /\ mX (.int .i64) (.int .i64 n53) es98 = some es100 /\ ∀ w101, w101 = bu w92 mb97 (.map es100 ck99) ->
  inR .i64 (i12 + 1) /\
  (I10 ((i12 + 1)) w101 /\ mu11 ((i12 + 1)) w101 < mu11 i12 w13)))) (
  K .nilIface w13))
theorem qx (u1 : Option Addr) {w : World} {R : Ending -> World -> Prop} (h : mE u1 w fun v w' => R (.returned v) w') : Calls Tryz.prog gq ⟨[(.pointer u1)]⟩ w R :=
  ab (ann := (.two .none (.two (.two .none (.one (.loop [(12, (Sh.int .i64))] ([2, 4, 5] ++ List.range' 13 35) (.two .none (.two .none (.two (.one (.two .none (.cut [] ([2] ++ List.range' 16 17) .none .none))) .none)))))) .none))) ag mixed Tryz.func62 (Eq.mp (by kernel_rfl) h)
def qy (u1 : Option Addr) (epoch2 : Int) (to3 : Int) (w : World) (K : Value -> World -> Prop) : Prop :=
  Calls Tryz.prog dQ ⟨[(.pointer u1), (.int .i64 epoch2), (.int .i64 to3), (.int .i64 4096)]⟩ w fun e4 w5 =>
  ∃ e6, e4 = .returned e6 /\
  isI e6 /\
  BIf (!isNilI e6) (
  K e6 w5) (
  needSome u1 fun a7 =>
  ∃ n8, w5.cell? (a7.add 3) = some (.int .i64 n8) /\
  BIf (decide (to3 <= n8)) (
  K .nilIface w5) (
  Calls Tryz.prog dB ⟨[(.pointer u1), (.int .i64 2), (.int .i64 to3), (Slc.v ⟨none, 0, 0⟩)]⟩ w5 fun e9 w10 =>
  ∃ n11 : Int, ∃ e12, e9 = .returned (.tuple ⟨[(.int .i64 n11), e12]⟩) /\
  isI e12 /\
  BIf (!isNilI e12) (
  K e12 w10) (
  needSome u1 fun a13 =>
  aw w10 (a13.add 3) 1 /\ ∀ w14, w14 = w10.setCell (a13.add 3) (.int .i64 to3) ->
  Calls Tryz.prog eY ⟨[(.pointer u1)]⟩ w14 fun e15 w16 =>
  e15 = .returned (.tuple #[]) /\
  Calls Tryz.prog gq ⟨[(.pointer u1)]⟩ w16 fun e17 w18 =>
  ∃ e19, e17 = .returned e19 /\
  K e19 w18)))
theorem tw (u1 : Option Addr) (epoch2 : Int) (to3 : Int) {w : World} {R : Ending -> World -> Prop} (h : qy u1 epoch2 to3 w fun v w' => R (.returned v) w') : Calls Tryz.prog iY ⟨[(.pointer u1), (.int .i64 epoch2), (.int .i64 to3)]⟩ w R :=
  ab (ann := .none) ag mixed Tryz.func32 (Eq.mp (by kernel_rfl) h)
def qz (u1 : Option Addr) (epoch2 : Int) (w : World) (K : Value -> World -> Prop) : Prop :=
  ∃ J3 : (Bool) -> World -> Prop,
  (
  BIf (decide (epoch2 < 0)) (
  J3 (true) w) (
  J3 ((decide (1073741824 < epoch2))) w)) /\ (
  ∀ x4 : Bool, ∀ w5 : World, J3 x4 w5 -> ∀ _ _ _ _ _ _ : Value,
  BIf x4 (
  ∃ v12, w5.drew.cell? ⟨jX, 0, none⟩ = some v12 /\
  K (.tuple ⟨[(.int .i64 0), v12]⟩) w5.drew) (
  needSome u1 fun a13 =>
  ∃ n14, w5.cell? (a13.add 4) = some (.int .i64 n14) /\
  BIf (decide (epoch2 < n14)) (
  ∃ v15, w5.drew.cell? ⟨fN, 0, none⟩ = some v15 /\
  K (.tuple ⟨[(.int .i64 0), v15]⟩) w5.drew) (
  needSome u1 fun a16 =>
  ∃ n17, w5.cell? (a16.add 4) = some (.int .i64 n17) /\
  BIf (decide (n17 < epoch2)) (
  Calls Tryz.prog dB ⟨[(.pointer u1), (.int .i64 3), (.int .i64 epoch2), (Slc.v ⟨none, 0, 0⟩)]⟩ w5 fun e18 w19 =>
  ∃ n20 : Int, ∃ e21, e18 = .returned (.tuple ⟨[(.int .i64 n20), e21]⟩) /\
  isI e21 /\
  BIf (!isNilI e21) (
  K (.tuple ⟨[(.int .i64 0), e21]⟩) w19) (
  needSome u1 fun a22 =>
  aw w19 (a22.add 4) 1 /\ ∀ w23, w23 = w19.setCell (a22.add 4) (.int .i64 epoch2) ->
  Calls Tryz.prog eF ⟨[(.pointer u1)]⟩ w23 fun e24 w25 =>
  ∃ n26, e24 = .returned (.int .i64 n26) /\
  K (.tuple ⟨[(.int .i64 n26), .nilIface]⟩) w25)) (
  Calls Tryz.prog eF ⟨[(.pointer u1)]⟩ w5 fun e27 w28 =>
  ∃ n29, e27 = .returned (.int .i64 n29) /\
  K (.tuple ⟨[(.int .i64 n29), .nilIface]⟩) w28))))
theorem tx (u1 : Option Addr) (epoch2 : Int) {w : World} {R : Ending -> World -> Prop} (h : qz u1 epoch2 w fun v w' => R (.returned v) w') : Calls Tryz.prog iZ ⟨[(.pointer u1), (.int .i64 epoch2)]⟩ w R :=
  ab (ann := (.two .none (.two (.one (.cut [(8, Sh.bool)] [9, 10, 11, 12, 13, 14] .none .none)) .none))) ag mixed Tryz.func42 (Eq.mp (by kernel_rfl) h)
def qA (u1 : Option Addr) (w : World) (K : Value -> World -> Prop) : Prop :=
  needSome u1 fun a2 =>
  ∃ n3, w.drew.cell? (a2.add 5) = some (.int .i64 n3) /\
  needSome u1 fun a4 =>
  ∃ n5, w.drew.cell? (a4.add 3) = some (.int .i64 n5) /\
  K (.int .i64 (if n5 > n3 then n5 else n3)) w.drew
theorem tz (u1 : Option Addr) {w : World} {R : Ending -> World -> Prop} (h : qA u1 w fun v w' => R (.returned v) w') : Calls Tryz.prog eF ⟨[(.pointer u1)]⟩ w R :=
  ab (ann := .none) ag mixed Tryz.func70 (Eq.mp (by kernel_rfl) h)
end Go.D

