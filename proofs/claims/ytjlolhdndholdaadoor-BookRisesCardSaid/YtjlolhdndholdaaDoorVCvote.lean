/-
  WHAT IS PROVED: verification conditions of functions of this program, each with its soundness. No further conditions.
-/
import Derived.Test.YtjlolhdndholdaaDoorBase
set_option linter.unusedSimpArgs false
set_option maxRecDepth 100000
set_option linter.unusedVariables false
namespace Go.D
open Go Go.Proofs
/-- (*tidewater/vote.Voter).look -/
def vote_Voter_look (v1 : Option Addr) (n2 : Int) (w : World) (K : Value → World → Prop) : Prop :=
  newS w (.cells ⟨[(Value.int .i64 (0 : Int)), (Value.int .i64 (0 : Int)), (strV ([] : List UInt8))]⟩ 119) fun r3 w4 =>
  needSome v1 fun a5 =>
  ∃ m6 : Option Nat, World.cell? w4 a5 = some (Value.map m6) ∧
  ∃ es7 : Array MapEntry, mapIs w4 m6 es7 ∧
  ∃ q8 : Option (Option Addr), mapGet (.int .i64) (Value.int .i64 n2) es7 = some (Option.map (Sh.v Sh.ptr) q8) ∧
  BIf (Option.isSome q8) (
    needSome (Option.getD q8 none) fun a9 =>
    ∃ n10 : Int, ∃ n11 : Int, ∃ t12 : List UInt8, rowAt w4 a9 0 [(Value.int .i64 n10), (Value.int .i64 n11), (strV t12)] ∧
    canW w4 (⟨r3, 0, none⟩ : Addr) 3 ∧ ∀ w13 : World, w13 = setCells w4 (⟨r3, 0, none⟩ : Addr) 0 [(Value.int .i64 n10), (Value.int .i64 n11), (strV t12)] →
    ∃ n14 : Int, ∃ n15 : Int, ∃ t16 : List UInt8, rowAt w13 (⟨r3, 0, none⟩ : Addr) 0 [(Value.int .i64 n14), (Value.int .i64 n15), (strV t16)] ∧
    K (Value.agg ⟨[(Value.int .i64 n14), (Value.int .i64 n15), (strV t16)]⟩) w13) (
    canW w4 (⟨r3, 0, none⟩ : Addr) 3 ∧ ∀ w17 : World, w17 = setCells w4 (⟨r3, 0, none⟩ : Addr) 0 [(Value.int .i64 (-1 : Int)), (Value.int .i64 (-1 : Int)), (strV ([] : List UInt8))] →
    ∃ n18 : Int, ∃ n19 : Int, ∃ t20 : List UInt8, rowAt w17 (⟨r3, 0, none⟩ : Addr) 0 [(Value.int .i64 n18), (Value.int .i64 n19), (strV t20)] ∧
    K (Value.agg ⟨[(Value.int .i64 n18), (Value.int .i64 n19), (strV t20)]⟩) w17)

theorem vote_Voter_look_eq (v1 : Option Addr) (n2 : Int) (w : World) (K : Value → World → Prop) : vote_Voter_look v1 n2 w K = denF Tryd.prog callB Tryd.f63 .none [(Value.pointer v1), (Value.int .i64 n2)] w K := by kernel_rfl
theorem vote_Voter_look_ok (v1 : Option Addr) (n2 : Int) {w : World} {R : Ending → World → Prop} (h : vote_Voter_look v1 n2 w fun v w' => R (.returned v) w') : Calls Tryd.prog fn_vote_Voter_look ⟨[(Value.pointer v1), (Value.int .i64 n2)]⟩ w R :=
  calls_of_den callB_ok mixed Tryd.func63 (vote_Voter_look_eq v1 n2 w _ ▸ h)

/-- (*tidewater/vote.Voter).keep -/
def vote_Voter_keep (v1 : Option Addr) (n2 : Int) (m3 : Int) (m4 : Int) (m5 : List UInt8) (w : World) (K : Value → World → Prop) : Prop :=
  newS w (.cells ⟨[(Value.int .i64 m3), (Value.int .i64 m4), (strV m5)]⟩ 119) fun r6 w7 =>
  needSome v1 fun a8 =>
  ∃ m9 : Option Nat, World.cell? w7 a8 = some (Value.map m9) ∧
  BIf (Option.isNone (m9 : Option Nat)) (
    newS w7 (.map #[] 0) fun r10 w11 =>
    needSome v1 fun a12 =>
    canW w11 a12 1 ∧ ∀ w13 : World, w13 = World.setCell w11 a12 (Value.map (some r10)) →
    needSome v1 fun a14 =>
    ∃ m15 : Option Nat, World.cell? w13 a14 = some (Value.map m15) ∧
    ∃ (mb16 : Nat) (es17 : Array MapEntry) (ck18 : Nat) (es19 : Array MapEntry) (ck20 : Nat), m15 = some mb16 ∧ (World.heap (w13))[mb16]? = some (.map es17 ck18) ∧ mapPut (.int .i64) (Value.int .i64 n2) (Value.pointer (some (⟨r6, 0, none⟩ : Addr))) es17 ck18 = some (es19, ck20) ∧ ∀ w21 : World, w21 = setObjW w13 mb16 (.map es19 ck20) →
    K (Value.tuple #[]) w21) (
    needSome v1 fun a22 =>
    ∃ m23 : Option Nat, World.cell? w7 a22 = some (Value.map m23) ∧
    ∃ (mb24 : Nat) (es25 : Array MapEntry) (ck26 : Nat) (es27 : Array MapEntry) (ck28 : Nat), m23 = some mb24 ∧ (World.heap (w7))[mb24]? = some (.map es25 ck26) ∧ mapPut (.int .i64) (Value.int .i64 n2) (Value.pointer (some (⟨r6, 0, none⟩ : Addr))) es25 ck26 = some (es27, ck28) ∧ ∀ w29 : World, w29 = setObjW w7 mb24 (.map es27 ck28) →
    K (Value.tuple #[]) w29)

theorem vote_Voter_keep_eq (v1 : Option Addr) (n2 : Int) (m3 : Int) (m4 : Int) (m5 : List UInt8) (w : World) (K : Value → World → Prop) : vote_Voter_keep v1 n2 m3 m4 m5 w K = denF Tryd.prog callB Tryd.f64 .none [(Value.pointer v1), (Value.int .i64 n2), (Value.agg ⟨[(Value.int .i64 m3), (Value.int .i64 m4), (strV m5)]⟩)] w K := by kernel_rfl
theorem vote_Voter_keep_ok (v1 : Option Addr) (n2 : Int) (m3 : Int) (m4 : Int) (m5 : List UInt8) {w : World} {R : Ending → World → Prop} (h : vote_Voter_keep v1 n2 m3 m4 m5 w fun v w' => R (.returned v) w') : Calls Tryd.prog fn_vote_Voter_keep ⟨[(Value.pointer v1), (Value.int .i64 n2), (Value.agg ⟨[(Value.int .i64 m3), (Value.int .i64 m4), (strV m5)]⟩)]⟩ w R :=
  calls_of_den callB_ok mixed Tryd.func64 (vote_Voter_keep_eq v1 n2 m3 m4 m5 w _ ▸ h)

/-- (*tidewater/vote.Voter).Prepare -/
def vote_Voter_Prepare (v1 : Option Addr) (n2 : Int) (ballot3 : Int) (w : World) (K : Value → World → Prop) : Prop :=
  newS w (.cells ⟨[(Value.bool false), (Value.int .i64 (0 : Int)), (strV ([] : List UInt8))]⟩ 74) fun r4 w5 =>
  Calls Tryd.prog fn_vote_Voter_look ⟨[(Value.pointer v1), (Value.int .i64 n2)]⟩ w5 fun e6 w7 =>
  ∃ x8 : Int, ∃ x9 : Int, ∃ x10 : List UInt8, e6 = .returned (Value.agg ⟨[(Value.int .i64 x8), (Value.int .i64 x9), (strV x10)]⟩) ∧
  newS w7 (.cells ⟨[(Value.int .i64 (0 : Int)), (Value.int .i64 (0 : Int)), (strV ([] : List UInt8))]⟩ 119) fun r11 w12 =>
  canW w12 (⟨r11, 0, none⟩ : Addr) 3 ∧ ∀ w13 : World, w13 = setCells w12 (⟨r11, 0, none⟩ : Addr) 0 [(Value.int .i64 x8), (Value.int .i64 x9), (strV x10)] →
  ∃ n14 : Int, World.cell? w13 (⟨r11, 0, none⟩ : Addr) = some (Value.int .i64 n14) ∧
  BIf (decide (n14 < ballot3)) (
    canW w13 (⟨r11, 0, none⟩ : Addr) 1 ∧ ∀ w15 : World, w15 = World.setCell w13 (⟨r11, 0, none⟩ : Addr) (Value.int .i64 ballot3) →
    ∃ n16 : Int, ∃ n17 : Int, ∃ t18 : List UInt8, rowAt w15 (⟨r11, 0, none⟩ : Addr) 0 [(Value.int .i64 n16), (Value.int .i64 n17), (strV t18)] ∧
    Calls Tryd.prog fn_vote_Voter_keep ⟨[(Value.pointer v1), (Value.int .i64 n2), (Value.agg ⟨[(Value.int .i64 n16), (Value.int .i64 n17), (strV t18)]⟩)]⟩ w15 fun e19 w20 =>
    e19 = .returned (Value.tuple #[]) ∧
    ∃ n21 : Int, World.cell? w20 (⟨r11, 1, none⟩ : Addr) = some (Value.int .i64 n21) ∧
    ∃ t22 : List UInt8, World.cell? w20 (⟨r11, 2, none⟩ : Addr) = some (strV t22) ∧
    canW w20 (⟨r4, 0, none⟩ : Addr) 3 ∧ ∀ w23 : World, w23 = setCells w20 (⟨r4, 0, none⟩ : Addr) 0 [(Value.bool (decide (n14 < ballot3))), (Value.int .i64 n21), (strV t22)] →
    ∃ b24 : Bool, ∃ n25 : Int, ∃ t26 : List UInt8, rowAt w23 (⟨r4, 0, none⟩ : Addr) 0 [(Value.bool b24), (Value.int .i64 n25), (strV t26)] ∧
    K (Value.agg ⟨[(Value.bool b24), (Value.int .i64 n25), (strV t26)]⟩) w23) (
    ∃ n27 : Int, World.cell? w13 (⟨r11, 1, none⟩ : Addr) = some (Value.int .i64 n27) ∧
    ∃ t28 : List UInt8, World.cell? w13 (⟨r11, 2, none⟩ : Addr) = some (strV t28) ∧
    canW w13 (⟨r4, 0, none⟩ : Addr) 3 ∧ ∀ w29 : World, w29 = setCells w13 (⟨r4, 0, none⟩ : Addr) 0 [(Value.bool (decide (n14 < ballot3))), (Value.int .i64 n27), (strV t28)] →
    ∃ b30 : Bool, ∃ n31 : Int, ∃ t32 : List UInt8, rowAt w29 (⟨r4, 0, none⟩ : Addr) 0 [(Value.bool b30), (Value.int .i64 n31), (strV t32)] ∧
    K (Value.agg ⟨[(Value.bool b30), (Value.int .i64 n31), (strV t32)]⟩) w29)

theorem vote_Voter_Prepare_eq (v1 : Option Addr) (n2 : Int) (ballot3 : Int) (w : World) (K : Value → World → Prop) : vote_Voter_Prepare v1 n2 ballot3 w K = denF Tryd.prog callB Tryd.f48 .none [(Value.pointer v1), (Value.int .i64 n2), (Value.int .i64 ballot3)] w K := by kernel_rfl
theorem vote_Voter_Prepare_ok (v1 : Option Addr) (n2 : Int) (ballot3 : Int) {w : World} {R : Ending → World → Prop} (h : vote_Voter_Prepare v1 n2 ballot3 w fun v w' => R (.returned v) w') : Calls Tryd.prog fn_vote_Voter_Prepare ⟨[(Value.pointer v1), (Value.int .i64 n2), (Value.int .i64 ballot3)]⟩ w R :=
  calls_of_den callB_ok mixed Tryd.func48 (vote_Voter_Prepare_eq v1 n2 ballot3 w _ ▸ h)

/-- (*tidewater/vote.Voter).Accept -/
def vote_Voter_Accept (v1 : Option Addr) (n2 : Int) (ballot3 : Int) (text4 : List UInt8) (w : World) (K : Value → World → Prop) : Prop :=
  Calls Tryd.prog fn_vote_Voter_look ⟨[(Value.pointer v1), (Value.int .i64 n2)]⟩ w fun e5 w6 =>
  ∃ x7 : Int, ∃ x8 : Int, ∃ x9 : List UInt8, e5 = .returned (Value.agg ⟨[(Value.int .i64 x7), (Value.int .i64 x8), (strV x9)]⟩) ∧
  newS w6 (.cells ⟨[(Value.int .i64 (0 : Int)), (Value.int .i64 (0 : Int)), (strV ([] : List UInt8))]⟩ 119) fun r10 w11 =>
  canW w11 (⟨r10, 0, none⟩ : Addr) 3 ∧ ∀ w12 : World, w12 = setCells w11 (⟨r10, 0, none⟩ : Addr) 0 [(Value.int .i64 x7), (Value.int .i64 x8), (strV x9)] →
  BIf (decide (ballot3 < (0 : Int))) (
    K (Value.bool false) w12) (
    ∃ n13 : Int, World.cell? w12 (⟨r10, 0, none⟩ : Addr) = some (Value.int .i64 n13) ∧
    BIf (decide (ballot3 < n13)) (
      K (Value.bool false) w12) (
      Calls Tryd.prog fn_vote_Voter_keep ⟨[(Value.pointer v1), (Value.int .i64 n2), (Value.agg ⟨[(Value.int .i64 ballot3), (Value.int .i64 ballot3), (strV text4)]⟩)]⟩ w12 fun e14 w15 =>
      e14 = .returned (Value.tuple #[]) ∧
      K (Value.bool true) w15))

theorem vote_Voter_Accept_eq (v1 : Option Addr) (n2 : Int) (ballot3 : Int) (text4 : List UInt8) (w : World) (K : Value → World → Prop) : vote_Voter_Accept v1 n2 ballot3 text4 w K = denF Tryd.prog callB Tryd.f47 .none [(Value.pointer v1), (Value.int .i64 n2), (Value.int .i64 ballot3), (strV text4)] w K := by kernel_rfl
theorem vote_Voter_Accept_ok (v1 : Option Addr) (n2 : Int) (ballot3 : Int) (text4 : List UInt8) {w : World} {R : Ending → World → Prop} (h : vote_Voter_Accept v1 n2 ballot3 text4 w fun v w' => R (.returned v) w') : Calls Tryd.prog fn_vote_Voter_Accept ⟨[(Value.pointer v1), (Value.int .i64 n2), (Value.int .i64 ballot3), (strV text4)]⟩ w R :=
  calls_of_den callB_ok mixed Tryd.func47 (vote_Voter_Accept_eq v1 n2 ballot3 text4 w _ ▸ h)

/-- tidewater/vote.New -/
def vote_New (voters1 : Int) (matter2 : Int) (ballot3 : Int) (text4 : List UInt8) (w : World) (K : Value → World → Prop) : Prop :=
  BIf (decide (voters1 < (1 : Int))) (
    ∃ v5 : Value, World.cell? (World.drew w) (⟨gl_ErrRange, 0, none⟩ : Addr) = some v5 ∧
    K (Value.tuple ⟨[(Value.pointer none), v5]⟩) (World.drew w)) (
    BIf (decide ((5 : Int) < voters1)) (
      ∃ v6 : Value, World.cell? (World.drew w) (⟨gl_ErrRange, 0, none⟩ : Addr) = some v6 ∧
      K (Value.tuple ⟨[(Value.pointer none), v6]⟩) (World.drew w)) (
      BIf (decide (ballot3 < (0 : Int))) (
        ∃ v7 : Value, World.cell? (World.drew w) (⟨gl_ErrForm, 0, none⟩ : Addr) = some v7 ∧
        K (Value.tuple ⟨[(Value.pointer none), v7]⟩) (World.drew w)) (
        newS w (.map #[] 0) fun r8 w9 =>
        newS w9 (.map #[] 0) fun r10 w11 =>
        newS w11 (.cells ⟨[(Value.int .i64 voters1), (Value.int .i64 ballot3), (strV text4), (Value.int .i64 (-1 : Int)), (Value.map (some r8)), (Value.map (some r10)), (Value.int .i64 (0 : Int)), (Value.int .i64 (0 : Int))]⟩ 99) fun r12 w13 =>
        K (Value.tuple ⟨[(Value.pointer (some (⟨r12, 0, none⟩ : Addr))), Value.nilIface]⟩) w13)))

theorem vote_New_eq (voters1 : Int) (matter2 : Int) (ballot3 : Int) (text4 : List UInt8) (w : World) (K : Value → World → Prop) : vote_New voters1 matter2 ballot3 text4 w K = denF Tryd.prog callB Tryd.f28 .none [(Value.int .i64 voters1), (Value.int .i64 matter2), (Value.int .i64 ballot3), (strV text4)] w K := by kernel_rfl
theorem vote_New_ok (voters1 : Int) (matter2 : Int) (ballot3 : Int) (text4 : List UInt8) {w : World} {R : Ending → World → Prop} (h : vote_New voters1 matter2 ballot3 text4 w fun v w' => R (.returned v) w') : Calls Tryd.prog fn_vote_New ⟨[(Value.int .i64 voters1), (Value.int .i64 matter2), (Value.int .i64 ballot3), (strV text4)]⟩ w R :=
  calls_of_den callB_ok mixed Tryd.func28 (vote_New_eq voters1 matter2 ballot3 text4 w _ ▸ h)

/-- (*tidewater/vote.Proposer).most -/
def vote_Proposer_most (p1 : Option Addr) (n2 : Int) (w : World) (K : Value → World → Prop) : Prop :=
  inR .i64 ((2 : Int) * n2) ∧
  needSome p1 fun a3 =>
  ∃ n4 : Int, World.cell? w a3 = some (Value.int .i64 n4) ∧
  K (Value.bool (decide (n4 < ((2 : Int) * n2)))) w

theorem vote_Proposer_most_eq (p1 : Option Addr) (n2 : Int) (w : World) (K : Value → World → Prop) : vote_Proposer_most p1 n2 w K = denF Tryd.prog callB Tryd.f50 .none [(Value.pointer p1), (Value.int .i64 n2)] w K := by kernel_rfl
theorem vote_Proposer_most_ok (p1 : Option Addr) (n2 : Int) {w : World} {R : Ending → World → Prop} (h : vote_Proposer_most p1 n2 w fun v w' => R (.returned v) w') : Calls Tryd.prog fn_vote_Proposer_most ⟨[(Value.pointer p1), (Value.int .i64 n2)]⟩ w R :=
  calls_of_den callB_ok mixed Tryd.func50 (vote_Proposer_most_eq p1 n2 w _ ▸ h)

/-- (*tidewater/vote.Proposer).has -/
def vote_Proposer_has (p1 : Option Addr) (i2 : Int) (w : World) (K : Value → World → Prop) : Prop :=
  BIf (decide ((0 : Int) ≤ i2)) (
    needSome p1 fun a3 =>
    ∃ n4 : Int, World.cell? w a3 = some (Value.int .i64 n4) ∧
    K (Value.bool (decide (i2 < n4))) w) (
    K (Value.bool false) w)

theorem vote_Proposer_has_eq (p1 : Option Addr) (i2 : Int) (w : World) (K : Value → World → Prop) : vote_Proposer_has p1 i2 w K = denF Tryd.prog callB Tryd.f49 .none [(Value.pointer p1), (Value.int .i64 i2)] w K := by kernel_rfl
theorem vote_Proposer_has_ok (p1 : Option Addr) (i2 : Int) {w : World} {R : Ending → World → Prop} (h : vote_Proposer_has p1 i2 w fun v w' => R (.returned v) w') : Calls Tryd.prog fn_vote_Proposer_has ⟨[(Value.pointer p1), (Value.int .i64 i2)]⟩ w R :=
  calls_of_den callB_ok mixed Tryd.func49 (vote_Proposer_has_eq p1 i2 w _ ▸ h)

/-- (*tidewater/vote.Proposer).Promise -/
def vote_Proposer_Promise (p1 : Option Addr) (from2 : Int) (t3 : Bool) (t4 : Int) (t5 : List UInt8) (w : World) (K : Value → World → Prop) : Prop :=
  newS w (.cells ⟨[(Value.bool t3), (Value.int .i64 t4), (strV t5)]⟩ 74) fun r6 w7 =>
  needSome p1 fun a8 =>
  ∃ m9 : Option Nat, World.cell? w7 (a8.add 4) = some (Value.map m9) ∧
  ∃ es10 : Array MapEntry, mapIs w7 m9 es10 ∧
  ∃ q11 : Option (Bool), mapGet (.int .i64) (Value.int .i64 from2) es10 = some (Option.map (Sh.v Sh.bool) q11) ∧
  ∃ J12 : World → Prop,
  (
    Calls Tryd.prog fn_vote_Proposer_has ⟨[(Value.pointer p1), (Value.int .i64 from2)]⟩ w7 fun e13 w14 =>
    ∃ b15 : Bool, e13 = .returned (Value.bool b15) ∧
    BIf (!b15) (
      needSome p1 fun a16 =>
      ∃ n17 : Int, World.cell? w14 (a16.add 6) = some (Value.int .i64 n17) ∧
      Calls Tryd.prog fn_vote_Proposer_most ⟨[(Value.pointer p1), (Value.int .i64 n17)]⟩ w14 fun e18 w19 =>
      ∃ b20 : Bool, e18 = .returned (Value.bool b20) ∧
      K (Value.bool b20) w19) (
      BIf (Option.isSome q11) (
        needSome p1 fun a21 =>
        ∃ n22 : Int, World.cell? w14 (a21.add 6) = some (Value.int .i64 n22) ∧
        Calls Tryd.prog fn_vote_Proposer_most ⟨[(Value.pointer p1), (Value.int .i64 n22)]⟩ w14 fun e23 w24 =>
        ∃ b25 : Bool, e23 = .returned (Value.bool b25) ∧
        K (Value.bool b25) w24) (
        J12 w14))) ∧ (
  ∀ w26 : World, J12 w26 → ∀ u27 u28 u29 u30 u31 u32 u33 u34 u35 u36 u37 u38 u39 u40 : Value,
    needSome p1 fun a41 =>
    ∃ m42 : Option Nat, World.cell? (World.drew w26) (a41.add 4) = some (Value.map m42) ∧
    ∃ b43 : Bool, World.cell? (World.drew w26) (⟨r6, 0, none⟩ : Addr) = some (Value.bool b43) ∧
    ∃ (mb44 : Nat) (es45 : Array MapEntry) (ck46 : Nat) (es47 : Array MapEntry) (ck48 : Nat), m42 = some mb44 ∧ (World.heap ((World.drew w26)))[mb44]? = some (.map es45 ck46) ∧ mapPut (.int .i64) (Value.int .i64 from2) (Value.bool b43) es45 ck46 = some (es47, ck48) ∧ ∀ w49 : World, w49 = setObjW (World.drew w26) mb44 (.map es47 ck48) →
    ∃ J50 : World → Prop,
    (
      ∃ b51 : Bool, World.cell? w49 (⟨r6, 0, none⟩ : Addr) = some (Value.bool b51) ∧
      BIf (!b51) (
        needSome p1 fun a52 =>
        ∃ n53 : Int, World.cell? w49 (a52.add 6) = some (Value.int .i64 n53) ∧
        Calls Tryd.prog fn_vote_Proposer_most ⟨[(Value.pointer p1), (Value.int .i64 n53)]⟩ w49 fun e54 w55 =>
        ∃ b56 : Bool, e54 = .returned (Value.bool b56) ∧
        K (Value.bool b56) w55) (
        needSome p1 fun a57 =>
        ∃ n58 : Int, World.cell? w49 (a57.add 6) = some (Value.int .i64 n58) ∧
        Calls Tryd.prog fn_vote_Proposer_most ⟨[(Value.pointer p1), (Value.int .i64 n58)]⟩ w49 fun e59 w60 =>
        ∃ b61 : Bool, e59 = .returned (Value.bool b61) ∧
        BIf b61 (
          needSome p1 fun a62 =>
          ∃ n63 : Int, World.cell? w60 (a62.add 6) = some (Value.int .i64 n63) ∧
          Calls Tryd.prog fn_vote_Proposer_most ⟨[(Value.pointer p1), (Value.int .i64 n63)]⟩ w60 fun e64 w65 =>
          ∃ b66 : Bool, e64 = .returned (Value.bool b66) ∧
          K (Value.bool b66) w65) (
          J50 w60))) ∧ (
    ∀ w67 : World, J50 w67 → ∀ u68 u69 u70 u71 u72 u73 u74 u75 u76 u77 u78 u79 u80 u81 u82 u83 u84 u85 : Value,
      needSome p1 fun a86 =>
      ∃ n87 : Int, World.cell? w67 (a86.add 6) = some (Value.int .i64 n87) ∧
      inR .i64 (n87 + (1 : Int)) ∧
      needSome p1 fun a88 =>
      canW w67 (a88.add 6) 1 ∧ ∀ w89 : World, w89 = World.setCell w67 (a88.add 6) (Value.int .i64 (n87 + (1 : Int))) →
      ∃ n90 : Int, World.cell? (World.drew w89) (⟨r6, 1, none⟩ : Addr) = some (Value.int .i64 n90) ∧
      needSome p1 fun a91 =>
      ∃ n92 : Int, World.cell? (World.drew w89) (a91.add 3) = some (Value.int .i64 n92) ∧
      BIf (decide (n92 < n90)) (
        ∃ n93 : Int, World.cell? (World.drew (World.drew w89)) (⟨r6, 1, none⟩ : Addr) = some (Value.int .i64 n93) ∧
        ∃ t94 : List UInt8, World.cell? (World.drew (World.drew w89)) (⟨r6, 2, none⟩ : Addr) = some (strV t94) ∧
        needSome p1 fun a95 =>
        canW (World.drew (World.drew w89)) (a95.add 3) 1 ∧ ∀ w96 : World, w96 = World.setCell (World.drew (World.drew w89)) (a95.add 3) (Value.int .i64 n93) →
        (∃ t97 : List UInt8, World.cell? w96 (⟨r6, 2, none⟩ : Addr) = some (strV t97) ∧
        (strV t97) = (strV t94)) ∧
        needSome p1 fun a98 =>
        canW w96 (a98.add 2) 1 ∧ ∀ w99 : World, w99 = World.setCell w96 (a98.add 2) (strV t94) →
        needSome p1 fun a100 =>
        ∃ n101 : Int, World.cell? w99 (a100.add 6) = some (Value.int .i64 n101) ∧
        Calls Tryd.prog fn_vote_Proposer_most ⟨[(Value.pointer p1), (Value.int .i64 n101)]⟩ w99 fun e102 w103 =>
        ∃ b104 : Bool, e102 = .returned (Value.bool b104) ∧
        K (Value.bool b104) w103) (
        needSome p1 fun a105 =>
        ∃ n106 : Int, World.cell? (World.drew w89) (a105.add 6) = some (Value.int .i64 n106) ∧
        Calls Tryd.prog fn_vote_Proposer_most ⟨[(Value.pointer p1), (Value.int .i64 n106)]⟩ (World.drew w89) fun e107 w108 =>
        ∃ b109 : Bool, e107 = .returned (Value.bool b109) ∧
        K (Value.bool b109) w108)))

theorem vote_Proposer_Promise_eq (p1 : Option Addr) (from2 : Int) (t3 : Bool) (t4 : Int) (t5 : List UInt8) (w : World) (K : Value → World → Prop) : vote_Proposer_Promise p1 from2 t3 t4 t5 w K = denF Tryd.prog callB Tryd.f30 (.two .none (.two .none (.cut [] [6, 18, 19, 20, 21, 22, 23, 24, 25, 26, 27, 28, 29, 30] .none (.two .none (.cut [] [6, 38, 39, 40, 41, 42, 43, 44, 45, 46, 47, 48, 49, 50, 51, 52, 53, 54] .none .none))))) [(Value.pointer p1), (Value.int .i64 from2), (Value.agg ⟨[(Value.bool t3), (Value.int .i64 t4), (strV t5)]⟩)] w K := by kernel_rfl
theorem vote_Proposer_Promise_ok (p1 : Option Addr) (from2 : Int) (t3 : Bool) (t4 : Int) (t5 : List UInt8) {w : World} {R : Ending → World → Prop} (h : vote_Proposer_Promise p1 from2 t3 t4 t5 w fun v w' => R (.returned v) w') : Calls Tryd.prog fn_vote_Proposer_Promise ⟨[(Value.pointer p1), (Value.int .i64 from2), (Value.agg ⟨[(Value.bool t3), (Value.int .i64 t4), (strV t5)]⟩)]⟩ w R :=
  calls_of_den callB_ok mixed Tryd.func30 (vote_Proposer_Promise_eq p1 from2 t3 t4 t5 w _ ▸ h)

/-- (*tidewater/vote.Proposer).Asks -/
def vote_Proposer_Asks (p1 : Option Addr) (w : World) (K : Value → World → Prop) : Prop :=
  needSome p1 fun a2 =>
  ∃ n3 : Int, World.cell? w (a2.add 6) = some (Value.int .i64 n3) ∧
  Calls Tryd.prog fn_vote_Proposer_most ⟨[(Value.pointer p1), (Value.int .i64 n3)]⟩ w fun e4 w5 =>
  ∃ b6 : Bool, e4 = .returned (Value.bool b6) ∧
  BIf (!b6) (
    K (Value.tuple ⟨[(strV ([] : List UInt8)), (Value.bool false)]⟩) w5) (
    needSome p1 fun a7 =>
    ∃ t8 : List UInt8, World.cell? w5 (a7.add 2) = some (strV t8) ∧
    K (Value.tuple ⟨[(strV t8), (Value.bool true)]⟩) w5)

theorem vote_Proposer_Asks_eq (p1 : Option Addr) (w : World) (K : Value → World → Prop) : vote_Proposer_Asks p1 w K = denF Tryd.prog callB Tryd.f31 .none [(Value.pointer p1)] w K := by kernel_rfl
theorem vote_Proposer_Asks_ok (p1 : Option Addr) {w : World} {R : Ending → World → Prop} (h : vote_Proposer_Asks p1 w fun v w' => R (.returned v) w') : Calls Tryd.prog fn_vote_Proposer_Asks ⟨[(Value.pointer p1)]⟩ w R :=
  calls_of_den callB_ok mixed Tryd.func31 (vote_Proposer_Asks_eq p1 w _ ▸ h)

/-- (*tidewater/vote.Proposer).Accepted -/
def vote_Proposer_Accepted (p1 : Option Addr) (from2 : Int) (yes3 : Bool) (w : World) (K : Value → World → Prop) : Prop :=
  needSome p1 fun a4 =>
  ∃ m5 : Option Nat, World.cell? w (a4.add 5) = some (Value.map m5) ∧
  ∃ es6 : Array MapEntry, mapIs w m5 es6 ∧
  ∃ q7 : Option (Bool), mapGet (.int .i64) (Value.int .i64 from2) es6 = some (Option.map (Sh.v Sh.bool) q7) ∧
  ∃ J8 : (Bool) → World → Prop,
  (
    needSome p1 fun a9 =>
    ∃ n10 : Int, World.cell? w (a9.add 6) = some (Value.int .i64 n10) ∧
    Calls Tryd.prog fn_vote_Proposer_most ⟨[(Value.pointer p1), (Value.int .i64 n10)]⟩ w fun e11 w12 =>
    ∃ b13 : Bool, e11 = .returned (Value.bool b13) ∧
    BIf b13 (
      Calls Tryd.prog fn_vote_Proposer_has ⟨[(Value.pointer p1), (Value.int .i64 from2)]⟩ w12 fun e14 w15 =>
      ∃ b16 : Bool, e14 = .returned (Value.bool b16) ∧
      BIf b16 (
        J8 ((!(Option.isSome q7))) w15) (
        J8 (false) w15)) (
      J8 (false) w12)) ∧ (
  ∀ x17 : Bool, ∀ w18 : World, J8 x17 w18 → ∀ u19 u20 u21 u22 u23 u24 u25 u26 u27 u28 u29 u30 u31 u32 : Value,
    BIf x17 (
      needSome p1 fun a33 =>
      ∃ m34 : Option Nat, World.cell? w18 (a33.add 5) = some (Value.map m34) ∧
      ∃ (mb35 : Nat) (es36 : Array MapEntry) (ck37 : Nat) (es38 : Array MapEntry) (ck39 : Nat), m34 = some mb35 ∧ (World.heap (w18))[mb35]? = some (.map es36 ck37) ∧ mapPut (.int .i64) (Value.int .i64 from2) (Value.bool yes3) es36 ck37 = some (es38, ck39) ∧ ∀ w40 : World, w40 = setObjW w18 mb35 (.map es38 ck39) →
      BIf yes3 (
        needSome p1 fun a41 =>
        ∃ n42 : Int, World.cell? w40 (a41.add 7) = some (Value.int .i64 n42) ∧
        inR .i64 (n42 + (1 : Int)) ∧
        needSome p1 fun a43 =>
        canW w40 (a43.add 7) 1 ∧ ∀ w44 : World, w44 = World.setCell w40 (a43.add 7) (Value.int .i64 (n42 + (1 : Int))) →
        needSome p1 fun a45 =>
        ∃ n46 : Int, World.cell? w44 (a45.add 7) = some (Value.int .i64 n46) ∧
        Calls Tryd.prog fn_vote_Proposer_most ⟨[(Value.pointer p1), (Value.int .i64 n46)]⟩ w44 fun e47 w48 =>
        ∃ b49 : Bool, e47 = .returned (Value.bool b49) ∧
        K (Value.bool b49) w48) (
        needSome p1 fun a50 =>
        ∃ n51 : Int, World.cell? w40 (a50.add 7) = some (Value.int .i64 n51) ∧
        Calls Tryd.prog fn_vote_Proposer_most ⟨[(Value.pointer p1), (Value.int .i64 n51)]⟩ w40 fun e52 w53 =>
        ∃ b54 : Bool, e52 = .returned (Value.bool b54) ∧
        K (Value.bool b54) w53)) (
      needSome p1 fun a55 =>
      ∃ n56 : Int, World.cell? w18 (a55.add 7) = some (Value.int .i64 n56) ∧
      Calls Tryd.prog fn_vote_Proposer_most ⟨[(Value.pointer p1), (Value.int .i64 n56)]⟩ w18 fun e57 w58 =>
      ∃ b59 : Bool, e57 = .returned (Value.bool b59) ∧
      K (Value.bool b59) w58))

theorem vote_Proposer_Accepted_eq (p1 : Option Addr) (from2 : Int) (yes3 : Bool) (w : World) (K : Value → World → Prop) : vote_Proposer_Accepted p1 from2 yes3 w K = denF Tryd.prog callB Tryd.f32 (.two .none (.two .none (.two (.cut [(32, Sh.bool)] [18, 19, 20, 21, 22, 23, 24, 25, 26, 27, 28, 29, 30, 31] .none .none) .none))) [(Value.pointer p1), (Value.int .i64 from2), (Value.bool yes3)] w K := by kernel_rfl
theorem vote_Proposer_Accepted_ok (p1 : Option Addr) (from2 : Int) (yes3 : Bool) {w : World} {R : Ending → World → Prop} (h : vote_Proposer_Accepted p1 from2 yes3 w fun v w' => R (.returned v) w') : Calls Tryd.prog fn_vote_Proposer_Accepted ⟨[(Value.pointer p1), (Value.int .i64 from2), (Value.bool yes3)]⟩ w R :=
  calls_of_den callB_ok mixed Tryd.func32 (vote_Proposer_Accepted_eq p1 from2 yes3 w _ ▸ h)

/-- (*tidewater/vote.Proposer).Decided -/
def vote_Proposer_Decided (p1 : Option Addr) (w : World) (K : Value → World → Prop) : Prop :=
  needSome p1 fun a2 =>
  ∃ n3 : Int, World.cell? w (a2.add 7) = some (Value.int .i64 n3) ∧
  Calls Tryd.prog fn_vote_Proposer_most ⟨[(Value.pointer p1), (Value.int .i64 n3)]⟩ w fun e4 w5 =>
  ∃ b6 : Bool, e4 = .returned (Value.bool b6) ∧
  BIf (!b6) (
    K (Value.tuple ⟨[(strV ([] : List UInt8)), (Value.bool false)]⟩) w5) (
    needSome p1 fun a7 =>
    ∃ t8 : List UInt8, World.cell? w5 (a7.add 2) = some (strV t8) ∧
    K (Value.tuple ⟨[(strV t8), (Value.bool true)]⟩) w5)

theorem vote_Proposer_Decided_eq (p1 : Option Addr) (w : World) (K : Value → World → Prop) : vote_Proposer_Decided p1 w K = denF Tryd.prog callB Tryd.f33 .none [(Value.pointer p1)] w K := by kernel_rfl
theorem vote_Proposer_Decided_ok (p1 : Option Addr) {w : World} {R : Ending → World → Prop} (h : vote_Proposer_Decided p1 w fun v w' => R (.returned v) w') : Calls Tryd.prog fn_vote_Proposer_Decided ⟨[(Value.pointer p1)]⟩ w R :=
  calls_of_den callB_ok mixed Tryd.func33 (vote_Proposer_Decided_eq p1 w _ ▸ h)

end Go.D
