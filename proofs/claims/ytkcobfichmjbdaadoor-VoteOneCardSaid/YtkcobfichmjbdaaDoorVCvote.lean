/-
  WHAT IS PROVED: verification conditions of functions of this program, each with its soundness. No further conditions.
-/
import Derived.Test.YtkcobfichmjbdaaDoorBase
set_option linter.unusedSimpArgs false
set_option maxRecDepth 100000
set_option linter.unusedVariables false
namespace Go.D
open Go Go.Proofs
/-- (*tidewater/vote.Voter).Promised -/
def vote_Voter_Promised (v1 : Option Addr) (n2 : Int) (w : World) (K : Value → World → Prop) : Prop :=
  Calls Tryd.prog fn_vote_Voter_look ⟨[(Value.pointer v1), (Value.int .i64 n2)]⟩ w fun e3 w4 =>
  ∃ x5 : Int, ∃ x6 : Int, ∃ x7 : List UInt8, e3 = .returned (Value.agg ⟨[(Value.int .i64 x5), (Value.int .i64 x6), (strV x7)]⟩) ∧
  K (Value.int .i64 x5) w4

theorem vote_Voter_Promised_eq (v1 : Option Addr) (n2 : Int) (w : World) (K : Value → World → Prop) : vote_Voter_Promised v1 n2 w K = denF Tryd.prog callB Tryd.f61 .none [(Value.pointer v1), (Value.int .i64 n2)] w K := by kernel_rfl
theorem vote_Voter_Promised_ok (v1 : Option Addr) (n2 : Int) {w : World} {R : Ending → World → Prop} (h : vote_Voter_Promised v1 n2 w fun v w' => R (.returned v) w') : Calls Tryd.prog fn_vote_Voter_Promised ⟨[(Value.pointer v1), (Value.int .i64 n2)]⟩ w R :=
  calls_of_den callB_ok mixed Tryd.func61 (vote_Voter_Promised_eq v1 n2 w _ ▸ h)

/-- (*tidewater/vote.Proposer).most -/
def vote_Proposer_most (p1 : Option Addr) (n2 : Int) (w : World) (K : Value → World → Prop) : Prop :=
  inR .i64 ((2 : Int) * n2) ∧
  needSome p1 fun a3 =>
  ∃ n4 : Int, World.cell? w a3 = some (Value.int .i64 n4) ∧
  K (Value.bool (decide (n4 < ((2 : Int) * n2)))) w

theorem vote_Proposer_most_eq (p1 : Option Addr) (n2 : Int) (w : World) (K : Value → World → Prop) : vote_Proposer_most p1 n2 w K = denF Tryd.prog callB Tryd.f62 .none [(Value.pointer p1), (Value.int .i64 n2)] w K := by kernel_rfl
theorem vote_Proposer_most_ok (p1 : Option Addr) (n2 : Int) {w : World} {R : Ending → World → Prop} (h : vote_Proposer_most p1 n2 w fun v w' => R (.returned v) w') : Calls Tryd.prog fn_vote_Proposer_most ⟨[(Value.pointer p1), (Value.int .i64 n2)]⟩ w R :=
  calls_of_den callB_ok mixed Tryd.func62 (vote_Proposer_most_eq p1 n2 w _ ▸ h)

/-- (*tidewater/vote.Proposer).has -/
def vote_Proposer_has (p1 : Option Addr) (i2 : Int) (w : World) (K : Value → World → Prop) : Prop :=
  BIf (decide ((0 : Int) ≤ i2)) (
    needSome p1 fun a3 =>
    ∃ n4 : Int, World.cell? w a3 = some (Value.int .i64 n4) ∧
    K (Value.bool (decide (i2 < n4))) w) (
    K (Value.bool false) w)

theorem vote_Proposer_has_eq (p1 : Option Addr) (i2 : Int) (w : World) (K : Value → World → Prop) : vote_Proposer_has p1 i2 w K = denF Tryd.prog callB Tryd.f63 .none [(Value.pointer p1), (Value.int .i64 i2)] w K := by kernel_rfl
theorem vote_Proposer_has_ok (p1 : Option Addr) (i2 : Int) {w : World} {R : Ending → World → Prop} (h : vote_Proposer_has p1 i2 w fun v w' => R (.returned v) w') : Calls Tryd.prog fn_vote_Proposer_has ⟨[(Value.pointer p1), (Value.int .i64 i2)]⟩ w R :=
  calls_of_den callB_ok mixed Tryd.func63 (vote_Proposer_has_eq p1 i2 w _ ▸ h)

/-- (*tidewater/vote.Voter).look -/
def vote_Voter_look (v1 : Option Addr) (n2 : Int) (w : World) (K : Value → World → Prop) : Prop :=
  newS w (.cells ⟨[(Value.int .i64 (0 : Int)), (Value.int .i64 (0 : Int)), (strV ([] : List UInt8))]⟩ 139) fun r3 w4 =>
  needSome v1 fun a5 =>
  ∃ m6 : Option Nat, World.cell? w4 a5 = some (Value.map m6) ∧
  ∃ es7 : Array MapEntry, mapIs w4 m6 es7 ∧
  ∃ q8 : Option (Option Addr), mapGet (.int .i64) (Value.int .i64 n2) es7 = some (Option.map (Sh.v Sh.ptr) q8) ∧
  BIf (Option.isSome q8) (
    needSome (Option.getD q8 none) fun a9 =>
    ∃ n10 : Int, ∃ n11 : Int, ∃ t12 : List UInt8, rowAt w4 a9 0 [(Value.int .i64 n10), (Value.int .i64 n11), (strV t12)] ∧
    canW w4 (⟨r3, 0, none⟩ : Addr) 3 ∧ ∀ w13 : World, w13 = setCells w4 (⟨r3, 0, none⟩ : Addr) 0 [(Value.int .i64 n10), (Value.int .i64 n11), (strV t12)] →
    ∃ n14 : Int, ∃ n15 : Int, ∃ t16 : List UInt8, rowAt w13 (⟨r3, 0, none⟩ : Addr) 0 [(Value.int .i64 n14), (Value.int .i64 n15), (strV t16)] ∧
    K (Value.agg ⟨[(Value.int .i64 n14), (Value.int .i64 n15), (strV t16)]⟩) w13) (
    canW w4 (⟨r3, 0, none⟩ : Addr) 3 ∧ ∀ w17 : World, w17 = setCells w4 (⟨r3, 0, none⟩ : Addr) 0 [(Value.int .i64 (-1 : Int)), (Value.int .i64 (-1 : Int)), (strV ([] : List UInt8))] →
    ∃ n18 : Int, ∃ n19 : Int, ∃ t20 : List UInt8, rowAt w17 (⟨r3, 0, none⟩ : Addr) 0 [(Value.int .i64 n18), (Value.int .i64 n19), (strV t20)] ∧
    K (Value.agg ⟨[(Value.int .i64 n18), (Value.int .i64 n19), (strV t20)]⟩) w17)

theorem vote_Voter_look_eq (v1 : Option Addr) (n2 : Int) (w : World) (K : Value → World → Prop) : vote_Voter_look v1 n2 w K = denF Tryd.prog callB Tryd.f64 .none [(Value.pointer v1), (Value.int .i64 n2)] w K := by kernel_rfl
theorem vote_Voter_look_ok (v1 : Option Addr) (n2 : Int) {w : World} {R : Ending → World → Prop} (h : vote_Voter_look v1 n2 w fun v w' => R (.returned v) w') : Calls Tryd.prog fn_vote_Voter_look ⟨[(Value.pointer v1), (Value.int .i64 n2)]⟩ w R :=
  calls_of_den callB_ok mixed Tryd.func64 (vote_Voter_look_eq v1 n2 w _ ▸ h)

/-- (*tidewater/vote.Voter).keep -/
def vote_Voter_keep (v1 : Option Addr) (n2 : Int) (m3 : Int) (m4 : Int) (m5 : List UInt8) (w : World) (K : Value → World → Prop) : Prop :=
  newS w (.cells ⟨[(Value.int .i64 m3), (Value.int .i64 m4), (strV m5)]⟩ 139) fun r6 w7 =>
  needSome v1 fun a8 =>
  ∃ m9 : Option Nat, World.cell? w7 a8 = some (Value.map m9) ∧
  BIf (Option.isNone (m9 : Option Nat)) (
    newS w7 (.map #[] 0) fun r10 w11 =>
    needSome v1 fun a12 =>
    canW w11 a12 1 ∧ ∀ w13 : World, w13 = World.setCell w11 a12 (Value.map (some r10)) →
    needSome v1 fun a14 =>
    ∃ m15 : Option Nat, World.cell? w13 a14 = some (Value.map m15) ∧
    ∃ (mb16 : Nat) (es17 : Array MapEntry) (ck18 : Nat) (es19 : Array MapEntry) (ck20 : Nat), m15 = some mb16 ∧ (World.heap (w13))[mb16]? = some (.map es17 ck18) ∧ mapPut (.int .i64) (Value.int .i64 n2) (Value.pointer (some (⟨r6, 0, none⟩ : Addr))) es17 ck18 = some (es19, ck20) ∧ ∀ w21 : World, w21 = setObjW w13 mb16 (.map es19 ck20) →
    K (Value.tuple #[]) w21) (
    needSome v1 fun a22 =>
    ∃ m23 : Option Nat, World.cell? w7 a22 = some (Value.map m23) ∧
    ∃ (mb24 : Nat) (es25 : Array MapEntry) (ck26 : Nat) (es27 : Array MapEntry) (ck28 : Nat), m23 = some mb24 ∧ (World.heap (w7))[mb24]? = some (.map es25 ck26) ∧ mapPut (.int .i64) (Value.int .i64 n2) (Value.pointer (some (⟨r6, 0, none⟩ : Addr))) es25 ck26 = some (es27, ck28) ∧ ∀ w29 : World, w29 = setObjW w7 mb24 (.map es27 ck28) →
    K (Value.tuple #[]) w29)

theorem vote_Voter_keep_eq (v1 : Option Addr) (n2 : Int) (m3 : Int) (m4 : Int) (m5 : List UInt8) (w : World) (K : Value → World → Prop) : vote_Voter_keep v1 n2 m3 m4 m5 w K = denF Tryd.prog callB Tryd.f65 .none [(Value.pointer v1), (Value.int .i64 n2), (Value.agg ⟨[(Value.int .i64 m3), (Value.int .i64 m4), (strV m5)]⟩)] w K := by kernel_rfl
theorem vote_Voter_keep_ok (v1 : Option Addr) (n2 : Int) (m3 : Int) (m4 : Int) (m5 : List UInt8) {w : World} {R : Ending → World → Prop} (h : vote_Voter_keep v1 n2 m3 m4 m5 w fun v w' => R (.returned v) w') : Calls Tryd.prog fn_vote_Voter_keep ⟨[(Value.pointer v1), (Value.int .i64 n2), (Value.agg ⟨[(Value.int .i64 m3), (Value.int .i64 m4), (strV m5)]⟩)]⟩ w R :=
  calls_of_den callB_ok mixed Tryd.func65 (vote_Voter_keep_eq v1 n2 m3 m4 m5 w _ ▸ h)

/-- (*tidewater/vote.Proposer).Asks -/
def vote_Proposer_Asks (p1 : Option Addr) (w : World) (K : Value → World → Prop) : Prop :=
  needSome p1 fun a2 =>
  ∃ n3 : Int, World.cell? w (a2.add 6) = some (Value.int .i64 n3) ∧
  Calls Tryd.prog fn_vote_Proposer_most ⟨[(Value.pointer p1), (Value.int .i64 n3)]⟩ w fun e4 w5 =>
  ∃ b6 : Bool, e4 = .returned (Value.bool b6) ∧
  BIf (!b6) (
    K (Value.tuple ⟨[(strV ([] : List UInt8)), (Value.bool false)]⟩) w5) (
    needSome p1 fun a7 =>
    ∃ t8 : List UInt8, World.cell? w5 (a7.add 2) = some (strV t8) ∧
    K (Value.tuple ⟨[(strV t8), (Value.bool true)]⟩) w5)

theorem vote_Proposer_Asks_eq (p1 : Option Addr) (w : World) (K : Value → World → Prop) : vote_Proposer_Asks p1 w K = denF Tryd.prog callB Tryd.f16 .none [(Value.pointer p1)] w K := by kernel_rfl
theorem vote_Proposer_Asks_ok (p1 : Option Addr) {w : World} {R : Ending → World → Prop} (h : vote_Proposer_Asks p1 w fun v w' => R (.returned v) w') : Calls Tryd.prog fn_vote_Proposer_Asks ⟨[(Value.pointer p1)]⟩ w R :=
  calls_of_den callB_ok mixed Tryd.func16 (vote_Proposer_Asks_eq p1 w _ ▸ h)

/-- (*tidewater/vote.Proposer).Accepted -/
def vote_Proposer_Accepted (p1 : Option Addr) (from2 : Int) (yes3 : Bool) (w : World) (K : Value → World → Prop) : Prop :=
  needSome p1 fun a4 =>
  ∃ m5 : Option Nat, World.cell? w (a4.add 5) = some (Value.map m5) ∧
  ∃ es6 : Array MapEntry, mapIs w m5 es6 ∧
  ∃ q7 : Option (Bool), mapGet (.int .i64) (Value.int .i64 from2) es6 = some (Option.map (Sh.v Sh.bool) q7) ∧
  ∃ J8 : (Bool) → World → Prop,
  (
    needSome p1 fun a9 =>
    ∃ n10 : Int, World.cell? w (a9.add 6) = some (Value.int .i64 n10) ∧
    Calls Tryd.prog fn_vote_Proposer_most ⟨[(Value.pointer p1), (Value.int .i64 n10)]⟩ w fun e11 w12 =>
    ∃ b13 : Bool, e11 = .returned (Value.bool b13) ∧
    BIf b13 (
      Calls Tryd.prog fn_vote_Proposer_has ⟨[(Value.pointer p1), (Value.int .i64 from2)]⟩ w12 fun e14 w15 =>
      ∃ b16 : Bool, e14 = .returned (Value.bool b16) ∧
      BIf b16 (
        J8 ((!(Option.isSome q7))) w15) (
        J8 (false) w15)) (
      J8 (false) w12)) ∧ (
  ∀ x17 : Bool, ∀ w18 : World, J8 x17 w18 → ∀ u19 u20 u21 u22 u23 u24 u25 u26 u27 u28 u29 u30 u31 u32 : Value,
    BIf x17 (
      needSome p1 fun a33 =>
      ∃ m34 : Option Nat, World.cell? w18 (a33.add 5) = some (Value.map m34) ∧
      ∃ (mb35 : Nat) (es36 : Array MapEntry) (ck37 : Nat) (es38 : Array MapEntry) (ck39 : Nat), m34 = some mb35 ∧ (World.heap (w18))[mb35]? = some (.map es36 ck37) ∧ mapPut (.int .i64) (Value.int .i64 from2) (Value.bool yes3) es36 ck37 = some (es38, ck39) ∧ ∀ w40 : World, w40 = setObjW w18 mb35 (.map es38 ck39) →
      BIf yes3 (
        needSome p1 fun a41 =>
        ∃ n42 : Int, World.cell? w40 (a41.add 7) = some (Value.int .i64 n42) ∧
        inR .i64 (n42 + (1 : Int)) ∧
        needSome p1 fun a43 =>
        canW w40 (a43.add 7) 1 ∧ ∀ w44 : World, w44 = World.setCell w40 (a43.add 7) (Value.int .i64 (n42 + (1 : Int))) →
        needSome p1 fun a45 =>
        ∃ n46 : Int, World.cell? w44 (a45.add 7) = some (Value.int .i64 n46) ∧
        Calls Tryd.prog fn_vote_Proposer_most ⟨[(Value.pointer p1), (Value.int .i64 n46)]⟩ w44 fun e47 w48 =>
        ∃ b49 : Bool, e47 = .returned (Value.bool b49) ∧
        K (Value.bool b49) w48) (
        needSome p1 fun a50 =>
        ∃ n51 : Int, World.cell? w40 (a50.add 7) = some (Value.int .i64 n51) ∧
        Calls Tryd.prog fn_vote_Proposer_most ⟨[(Value.pointer p1), (Value.int .i64 n51)]⟩ w40 fun e52 w53 =>
        ∃ b54 : Bool, e52 = .returned (Value.bool b54) ∧
        K (Value.bool b54) w53)) (
      needSome p1 fun a55 =>
      ∃ n56 : Int, World.cell? w18 (a55.add 7) = some (Value.int .i64 n56) ∧
      Calls Tryd.prog fn_vote_Proposer_most ⟨[(Value.pointer p1), (Value.int .i64 n56)]⟩ w18 fun e57 w58 =>
      ∃ b59 : Bool, e57 = .returned (Value.bool b59) ∧
      K (Value.bool b59) w58))

theorem vote_Proposer_Accepted_eq (p1 : Option Addr) (from2 : Int) (yes3 : Bool) (w : World) (K : Value → World → Prop) : vote_Proposer_Accepted p1 from2 yes3 w K = denF Tryd.prog callB Tryd.f17 (.two .none (.two .none (.two (.cut [(32, Sh.bool)] [18, 19, 20, 21, 22, 23, 24, 25, 26, 27, 28, 29, 30, 31] .none .none) .none))) [(Value.pointer p1), (Value.int .i64 from2), (Value.bool yes3)] w K := by kernel_rfl
theorem vote_Proposer_Accepted_ok (p1 : Option Addr) (from2 : Int) (yes3 : Bool) {w : World} {R : Ending → World → Prop} (h : vote_Proposer_Accepted p1 from2 yes3 w fun v w' => R (.returned v) w') : Calls Tryd.prog fn_vote_Proposer_Accepted ⟨[(Value.pointer p1), (Value.int .i64 from2), (Value.bool yes3)]⟩ w R :=
  calls_of_den callB_ok mixed Tryd.func17 (vote_Proposer_Accepted_eq p1 from2 yes3 w _ ▸ h)

/-- (*tidewater/vote.Voter).Accept -/
def vote_Voter_Accept (v1 : Option Addr) (n2 : Int) (ballot3 : Int) (text4 : List UInt8) (w : World) (K : Value → World → Prop) : Prop :=
  Calls Tryd.prog fn_vote_Voter_look ⟨[(Value.pointer v1), (Value.int .i64 n2)]⟩ w fun e5 w6 =>
  ∃ x7 : Int, ∃ x8 : Int, ∃ x9 : List UInt8, e5 = .returned (Value.agg ⟨[(Value.int .i64 x7), (Value.int .i64 x8), (strV x9)]⟩) ∧
  newS w6 (.cells ⟨[(Value.int .i64 (0 : Int)), (Value.int .i64 (0 : Int)), (strV ([] : List UInt8))]⟩ 139) fun r10 w11 =>
  canW w11 (⟨r10, 0, none⟩ : Addr) 3 ∧ ∀ w12 : World, w12 = setCells w11 (⟨r10, 0, none⟩ : Addr) 0 [(Value.int .i64 x7), (Value.int .i64 x8), (strV x9)] →
  BIf (decide (ballot3 < (0 : Int))) (
    K (Value.bool false) w12) (
    ∃ n13 : Int, World.cell? w12 (⟨r10, 0, none⟩ : Addr) = some (Value.int .i64 n13) ∧
    BIf (decide (ballot3 < n13)) (
      K (Value.bool false) w12) (
      Calls Tryd.prog fn_vote_Voter_keep ⟨[(Value.pointer v1), (Value.int .i64 n2), (Value.agg ⟨[(Value.int .i64 ballot3), (Value.int .i64 ballot3), (strV text4)]⟩)]⟩ w12 fun e14 w15 =>
      e14 = .returned (Value.tuple #[]) ∧
      K (Value.bool true) w15))

theorem vote_Voter_Accept_eq (v1 : Option Addr) (n2 : Int) (ballot3 : Int) (text4 : List UInt8) (w : World) (K : Value → World → Prop) : vote_Voter_Accept v1 n2 ballot3 text4 w K = denF Tryd.prog callB Tryd.f18 .none [(Value.pointer v1), (Value.int .i64 n2), (Value.int .i64 ballot3), (strV text4)] w K := by kernel_rfl
theorem vote_Voter_Accept_ok (v1 : Option Addr) (n2 : Int) (ballot3 : Int) (text4 : List UInt8) {w : World} {R : Ending → World → Prop} (h : vote_Voter_Accept v1 n2 ballot3 text4 w fun v w' => R (.returned v) w') : Calls Tryd.prog fn_vote_Voter_Accept ⟨[(Value.pointer v1), (Value.int .i64 n2), (Value.int .i64 ballot3), (strV text4)]⟩ w R :=
  calls_of_den callB_ok mixed Tryd.func18 (vote_Voter_Accept_eq v1 n2 ballot3 text4 w _ ▸ h)

/-- (*tidewater/vote.Proposer).Promise -/
def vote_Proposer_Promise (p1 : Option Addr) (from2 : Int) (t3 : Bool) (t4 : Int) (t5 : List UInt8) (w : World) (K : Value → World → Prop) : Prop :=
  newS w (.cells ⟨[(Value.bool t3), (Value.int .i64 t4), (strV t5)]⟩ 44) fun r6 w7 =>
  needSome p1 fun a8 =>
  ∃ m9 : Option Nat, World.cell? w7 (a8.add 4) = some (Value.map m9) ∧
  ∃ es10 : Array MapEntry, mapIs w7 m9 es10 ∧
  ∃ q11 : Option (Bool), mapGet (.int .i64) (Value.int .i64 from2) es10 = some (Option.map (Sh.v Sh.bool) q11) ∧
  ∃ J12 : World → Prop,
  (
    Calls Tryd.prog fn_vote_Proposer_has ⟨[(Value.pointer p1), (Value.int .i64 from2)]⟩ w7 fun e13 w14 =>
    ∃ b15 : Bool, e13 = .returned (Value.bool b15) ∧
    BIf (!b15) (
      needSome p1 fun a16 =>
      ∃ n17 : Int, World.cell? w14 (a16.add 6) = some (Value.int .i64 n17) ∧
      Calls Tryd.prog fn_vote_Proposer_most ⟨[(Value.pointer p1), (Value.int .i64 n17)]⟩ w14 fun e18 w19 =>
      ∃ b20 : Bool, e18 = .returned (Value.bool b20) ∧
      K (Value.bool b20) w19) (
      BIf (Option.isSome q11) (
        needSome p1 fun a21 =>
        ∃ n22 : Int, World.cell? w14 (a21.add 6) = some (Value.int .i64 n22) ∧
        Calls Tryd.prog fn_vote_Proposer_most ⟨[(Value.pointer p1), (Value.int .i64 n22)]⟩ w14 fun e23 w24 =>
        ∃ b25 : Bool, e23 = .returned (Value.bool b25) ∧
        K (Value.bool b25) w24) (
        J12 w14))) ∧ (
  ∀ w26 : World, J12 w26 → ∀ u27 u28 u29 u30 u31 u32 u33 u34 u35 u36 u37 u38 u39 u40 : Value,
    needSome p1 fun a41 =>
    ∃ m42 : Option Nat, World.cell? (World.drew w26) (a41.add 4) = some (Value.map m42) ∧
    ∃ b43 : Bool, World.cell? (World.drew w26) (⟨r6, 0, none⟩ : Addr) = some (Value.bool b43) ∧
    ∃ (mb44 : Nat) (es45 : Array MapEntry) (ck46 : Nat) (es47 : Array MapEntry) (ck48 : Nat), m42 = some mb44 ∧ (World.heap ((World.drew w26)))[mb44]? = some (.map es45 ck46) ∧ mapPut (.int .i64) (Value.int .i64 from2) (Value.bool b43) es45 ck46 = some (es47, ck48) ∧ ∀ w49 : World, w49 = setObjW (World.drew w26) mb44 (.map es47 ck48) →
    ∃ J50 : World → Prop,
    (
      ∃ b51 : Bool, World.cell? w49 (⟨r6, 0, none⟩ : Addr) = some (Value.bool b51) ∧
      BIf (!b51) (
        needSome p1 fun a52 =>
        ∃ n53 : Int, World.cell? w49 (a52.add 6) = some (Value.int .i64 n53) ∧
        Calls Tryd.prog fn_vote_Proposer_most ⟨[(Value.pointer p1), (Value.int .i64 n53)]⟩ w49 fun e54 w55 =>
        ∃ b56 : Bool, e54 = .returned (Value.bool b56) ∧
        K (Value.bool b56) w55) (
        needSome p1 fun a57 =>
        ∃ n58 : Int, World.cell? w49 (a57.add 6) = some (Value.int .i64 n58) ∧
        Calls Tryd.prog fn_vote_Proposer_most ⟨[(Value.pointer p1), (Value.int .i64 n58)]⟩ w49 fun e59 w60 =>
        ∃ b61 : Bool, e59 = .returned (Value.bool b61) ∧
        BIf b61 (
          needSome p1 fun a62 =>
          ∃ n63 : Int, World.cell? w60 (a62.add 6) = some (Value.int .i64 n63) ∧
          Calls Tryd.prog fn_vote_Proposer_most ⟨[(Value.pointer p1), (Value.int .i64 n63)]⟩ w60 fun e64 w65 =>
          ∃ b66 : Bool, e64 = .returned (Value.bool b66) ∧
          K (Value.bool b66) w65) (
          J50 w60))) ∧ (
    ∀ w67 : World, J50 w67 → ∀ u68 u69 u70 u71 u72 u73 u74 u75 u76 u77 u78 u79 u80 u81 u82 u83 u84 u85 : Value,
      needSome p1 fun a86 =>
      ∃ n87 : Int, World.cell? w67 (a86.add 6) = some (Value.int .i64 n87) ∧
      inR .i64 (n87 + (1 : Int)) ∧
      needSome p1 fun a88 =>
      canW w67 (a88.add 6) 1 ∧ ∀ w89 : World, w89 = World.setCell w67 (a88.add 6) (Value.int .i64 (n87 + (1 : Int))) →
      ∃ n90 : Int, World.cell? (World.drew w89) (⟨r6, 1, none⟩ : Addr) = some (Value.int .i64 n90) ∧
      needSome p1 fun a91 =>
      ∃ n92 : Int, World.cell? (World.drew w89) (a91.add 3) = some (Value.int .i64 n92) ∧
      BIf (decide (n92 < n90)) (
        ∃ n93 : Int, World.cell? (World.drew (World.drew w89)) (⟨r6, 1, none⟩ : Addr) = some (Value.int .i64 n93) ∧
        ∃ t94 : List UInt8, World.cell? (World.drew (World.drew w89)) (⟨r6, 2, none⟩ : Addr) = some (strV t94) ∧
        needSome p1 fun a95 =>
        canW (World.drew (World.drew w89)) (a95.add 3) 1 ∧ ∀ w96 : World, w96 = World.setCell (World.drew (World.drew w89)) (a95.add 3) (Value.int .i64 n93) →
        (∃ t97 : List UInt8, World.cell? w96 (⟨r6, 2, none⟩ : Addr) = some (strV t97) ∧
        (strV t97) = (strV t94)) ∧
        needSome p1 fun a98 =>
        canW w96 (a98.add 2) 1 ∧ ∀ w99 : World, w99 = World.setCell w96 (a98.add 2) (strV t94) →
        needSome p1 fun a100 =>
        ∃ n101 : Int, World.cell? w99 (a100.add 6) = some (Value.int .i64 n101) ∧
        Calls Tryd.prog fn_vote_Proposer_most ⟨[(Value.pointer p1), (Value.int .i64 n101)]⟩ w99 fun e102 w103 =>
        ∃ b104 : Bool, e102 = .returned (Value.bool b104) ∧
        K (Value.bool b104) w103) (
        needSome p1 fun a105 =>
        ∃ n106 : Int, World.cell? (World.drew w89) (a105.add 6) = some (Value.int .i64 n106) ∧
        Calls Tryd.prog fn_vote_Proposer_most ⟨[(Value.pointer p1), (Value.int .i64 n106)]⟩ (World.drew w89) fun e107 w108 =>
        ∃ b109 : Bool, e107 = .returned (Value.bool b109) ∧
        K (Value.bool b109) w108)))

theorem vote_Proposer_Promise_eq (p1 : Option Addr) (from2 : Int) (t3 : Bool) (t4 : Int) (t5 : List UInt8) (w : World) (K : Value → World → Prop) : vote_Proposer_Promise p1 from2 t3 t4 t5 w K = denF Tryd.prog callB Tryd.f19 (.two .none (.two .none (.cut [] [6, 18, 19, 20, 21, 22, 23, 24, 25, 26, 27, 28, 29, 30] .none (.two .none (.cut [] [6, 38, 39, 40, 41, 42, 43, 44, 45, 46, 47, 48, 49, 50, 51, 52, 53, 54] .none .none))))) [(Value.pointer p1), (Value.int .i64 from2), (Value.agg ⟨[(Value.bool t3), (Value.int .i64 t4), (strV t5)]⟩)] w K := by kernel_rfl
theorem vote_Proposer_Promise_ok (p1 : Option Addr) (from2 : Int) (t3 : Bool) (t4 : Int) (t5 : List UInt8) {w : World} {R : Ending → World → Prop} (h : vote_Proposer_Promise p1 from2 t3 t4 t5 w fun v w' => R (.returned v) w') : Calls Tryd.prog fn_vote_Proposer_Promise ⟨[(Value.pointer p1), (Value.int .i64 from2), (Value.agg ⟨[(Value.bool t3), (Value.int .i64 t4), (strV t5)]⟩)]⟩ w R :=
  calls_of_den callB_ok mixed Tryd.func19 (vote_Proposer_Promise_eq p1 from2 t3 t4 t5 w _ ▸ h)

/-- (*tidewater/vote.Voter).Prepare -/
def vote_Voter_Prepare (v1 : Option Addr) (n2 : Int) (ballot3 : Int) (w : World) (K : Value → World → Prop) : Prop :=
  newS w (.cells ⟨[(Value.bool false), (Value.int .i64 (0 : Int)), (strV ([] : List UInt8))]⟩ 44) fun r4 w5 =>
  Calls Tryd.prog fn_vote_Voter_look ⟨[(Value.pointer v1), (Value.int .i64 n2)]⟩ w5 fun e6 w7 =>
  ∃ x8 : Int, ∃ x9 : Int, ∃ x10 : List UInt8, e6 = .returned (Value.agg ⟨[(Value.int .i64 x8), (Value.int .i64 x9), (strV x10)]⟩) ∧
  newS w7 (.cells ⟨[(Value.int .i64 (0 : Int)), (Value.int .i64 (0 : Int)), (strV ([] : List UInt8))]⟩ 139) fun r11 w12 =>
  canW w12 (⟨r11, 0, none⟩ : Addr) 3 ∧ ∀ w13 : World, w13 = setCells w12 (⟨r11, 0, none⟩ : Addr) 0 [(Value.int .i64 x8), (Value.int .i64 x9), (strV x10)] →
  ∃ n14 : Int, World.cell? w13 (⟨r11, 0, none⟩ : Addr) = some (Value.int .i64 n14) ∧
  BIf (decide (n14 < ballot3)) (
    canW w13 (⟨r11, 0, none⟩ : Addr) 1 ∧ ∀ w15 : World, w15 = World.setCell w13 (⟨r11, 0, none⟩ : Addr) (Value.int .i64 ballot3) →
    ∃ n16 : Int, ∃ n17 : Int, ∃ t18 : List UInt8, rowAt w15 (⟨r11, 0, none⟩ : Addr) 0 [(Value.int .i64 n16), (Value.int .i64 n17), (strV t18)] ∧
    Calls Tryd.prog fn_vote_Voter_keep ⟨[(Value.pointer v1), (Value.int .i64 n2), (Value.agg ⟨[(Value.int .i64 n16), (Value.int .i64 n17), (strV t18)]⟩)]⟩ w15 fun e19 w20 =>
    e19 = .returned (Value.tuple #[]) ∧
    ∃ n21 : Int, World.cell? w20 (⟨r11, 1, none⟩ : Addr) = some (Value.int .i64 n21) ∧
    ∃ t22 : List UInt8, World.cell? w20 (⟨r11, 2, none⟩ : Addr) = some (strV t22) ∧
    canW w20 (⟨r4, 0, none⟩ : Addr) 3 ∧ ∀ w23 : World, w23 = setCells w20 (⟨r4, 0, none⟩ : Addr) 0 [(Value.bool (decide (n14 < ballot3))), (Value.int .i64 n21), (strV t22)] →
    ∃ b24 : Bool, ∃ n25 : Int, ∃ t26 : List UInt8, rowAt w23 (⟨r4, 0, none⟩ : Addr) 0 [(Value.bool b24), (Value.int .i64 n25), (strV t26)] ∧
    K (Value.agg ⟨[(Value.bool b24), (Value.int .i64 n25), (strV t26)]⟩) w23) (
    ∃ n27 : Int, World.cell? w13 (⟨r11, 1, none⟩ : Addr) = some (Value.int .i64 n27) ∧
    ∃ t28 : List UInt8, World.cell? w13 (⟨r11, 2, none⟩ : Addr) = some (strV t28) ∧
    canW w13 (⟨r4, 0, none⟩ : Addr) 3 ∧ ∀ w29 : World, w29 = setCells w13 (⟨r4, 0, none⟩ : Addr) 0 [(Value.bool (decide (n14 < ballot3))), (Value.int .i64 n27), (strV t28)] →
    ∃ b30 : Bool, ∃ n31 : Int, ∃ t32 : List UInt8, rowAt w29 (⟨r4, 0, none⟩ : Addr) 0 [(Value.bool b30), (Value.int .i64 n31), (strV t32)] ∧
    K (Value.agg ⟨[(Value.bool b30), (Value.int .i64 n31), (strV t32)]⟩) w29)

theorem vote_Voter_Prepare_eq (v1 : Option Addr) (n2 : Int) (ballot3 : Int) (w : World) (K : Value → World → Prop) : vote_Voter_Prepare v1 n2 ballot3 w K = denF Tryd.prog callB Tryd.f20 .none [(Value.pointer v1), (Value.int .i64 n2), (Value.int .i64 ballot3)] w K := by kernel_rfl
theorem vote_Voter_Prepare_ok (v1 : Option Addr) (n2 : Int) (ballot3 : Int) {w : World} {R : Ending → World → Prop} (h : vote_Voter_Prepare v1 n2 ballot3 w fun v w' => R (.returned v) w') : Calls Tryd.prog fn_vote_Voter_Prepare ⟨[(Value.pointer v1), (Value.int .i64 n2), (Value.int .i64 ballot3)]⟩ w R :=
  calls_of_den callB_ok mixed Tryd.func20 (vote_Voter_Prepare_eq v1 n2 ballot3 w _ ▸ h)

/-- (*tidewater/vote.Proposer).Decided -/
def vote_Proposer_Decided (p1 : Option Addr) (w : World) (K : Value → World → Prop) : Prop :=
  needSome p1 fun a2 =>
  ∃ n3 : Int, World.cell? w (a2.add 7) = some (Value.int .i64 n3) ∧
  Calls Tryd.prog fn_vote_Proposer_most ⟨[(Value.pointer p1), (Value.int .i64 n3)]⟩ w fun e4 w5 =>
  ∃ b6 : Bool, e4 = .returned (Value.bool b6) ∧
  BIf (!b6) (
    K (Value.tuple ⟨[(strV ([] : List UInt8)), (Value.bool false)]⟩) w5) (
    needSome p1 fun a7 =>
    ∃ t8 : List UInt8, World.cell? w5 (a7.add 2) = some (strV t8) ∧
    K (Value.tuple ⟨[(strV t8), (Value.bool true)]⟩) w5)

theorem vote_Proposer_Decided_eq (p1 : Option Addr) (w : World) (K : Value → World → Prop) : vote_Proposer_Decided p1 w K = denF Tryd.prog callB Tryd.f21 .none [(Value.pointer p1)] w K := by kernel_rfl
theorem vote_Proposer_Decided_ok (p1 : Option Addr) {w : World} {R : Ending → World → Prop} (h : vote_Proposer_Decided p1 w fun v w' => R (.returned v) w') : Calls Tryd.prog fn_vote_Proposer_Decided ⟨[(Value.pointer p1)]⟩ w R :=
  calls_of_den callB_ok mixed Tryd.func21 (vote_Proposer_Decided_eq p1 w _ ▸ h)

/-- tidewater/vote.New -/
def vote_New (voters1 : Int) (matter2 : Int) (ballot3 : Int) (text4 : List UInt8) (w : World) (K : Value → World → Prop) : Prop :=
  BIf (decide (voters1 < (1 : Int))) (
    ∃ v5 : Value, World.cell? (World.drew w) (⟨gl_ErrRange, 0, none⟩ : Addr) = some v5 ∧
    K (Value.tuple ⟨[(Value.pointer none), v5]⟩) (World.drew w)) (
    BIf (decide ((5 : Int) < voters1)) (
      ∃ v6 : Value, World.cell? (World.drew w) (⟨gl_ErrRange, 0, none⟩ : Addr) = some v6 ∧
      K (Value.tuple ⟨[(Value.pointer none), v6]⟩) (World.drew w)) (
      BIf (decide (ballot3 < (0 : Int))) (
        ∃ v7 : Value, World.cell? (World.drew w) (⟨gl_ErrForm, 0, none⟩ : Addr) = some v7 ∧
        K (Value.tuple ⟨[(Value.pointer none), v7]⟩) (World.drew w)) (
        newS w (.map #[] 0) fun r8 w9 =>
        newS w9 (.map #[] 0) fun r10 w11 =>
        newS w11 (.cells ⟨[(Value.int .i64 voters1), (Value.int .i64 ballot3), (strV text4), (Value.int .i64 (-1 : Int)), (Value.map (some r8)), (Value.map (some r10)), (Value.int .i64 (0 : Int)), (Value.int .i64 (0 : Int))]⟩ 136) fun r12 w13 =>
        K (Value.tuple ⟨[(Value.pointer (some (⟨r12, 0, none⟩ : Addr))), Value.nilIface]⟩) w13)))

theorem vote_New_eq (voters1 : Int) (matter2 : Int) (ballot3 : Int) (text4 : List UInt8) (w : World) (K : Value → World → Prop) : vote_New voters1 matter2 ballot3 text4 w K = denF Tryd.prog callB Tryd.f22 .none [(Value.int .i64 voters1), (Value.int .i64 matter2), (Value.int .i64 ballot3), (strV text4)] w K := by kernel_rfl
theorem vote_New_ok (voters1 : Int) (matter2 : Int) (ballot3 : Int) (text4 : List UInt8) {w : World} {R : Ending → World → Prop} (h : vote_New voters1 matter2 ballot3 text4 w fun v w' => R (.returned v) w') : Calls Tryd.prog fn_vote_New ⟨[(Value.int .i64 voters1), (Value.int .i64 matter2), (Value.int .i64 ballot3), (strV text4)]⟩ w R :=
  calls_of_den callB_ok mixed Tryd.func22 (vote_New_eq voters1 matter2 ballot3 text4 w _ ▸ h)

/-- tidewater/tidewaterlaw11.alive -/
def tidewaterlaw11_alive  (w : World) (K : Value → World → Prop) : Prop :=
  newS w (.cells ⟨[(Value.map none)]⟩ 28) fun r1 w2 =>
  Calls Tryd.prog fn_vote_Voter_Prepare ⟨[(Value.pointer (some (⟨r1, 0, none⟩ : Addr))), (Value.int .i64 (1 : Int)), (Value.int .i64 (5 : Int))]⟩ w2 fun e3 w4 =>
  ∃ x5 : Bool, ∃ x6 : Int, ∃ x7 : List UInt8, e3 = .returned (Value.agg ⟨[(Value.bool x5), (Value.int .i64 x6), (strV x7)]⟩) ∧
  BIf x5 (
    Calls Tryd.prog fn_vote_Voter_Prepare ⟨[(Value.pointer (some (⟨r1, 0, none⟩ : Addr))), (Value.int .i64 (1 : Int)), (Value.int .i64 (4 : Int))]⟩ w4 fun e8 w9 =>
    ∃ x10 : Bool, ∃ x11 : Int, ∃ x12 : List UInt8, e8 = .returned (Value.agg ⟨[(Value.bool x10), (Value.int .i64 x11), (strV x12)]⟩) ∧
    BIf (!x10) (
      Calls Tryd.prog fn_vote_Voter_Accept ⟨[(Value.pointer (some (⟨r1, 0, none⟩ : Addr))), (Value.int .i64 (1 : Int)), (Value.int .i64 (5 : Int)), (strV ([97] : List UInt8))]⟩ w9 fun e13 w14 =>
      ∃ b15 : Bool, e13 = .returned (Value.bool b15) ∧
      BIf b15 (
        Calls Tryd.prog fn_vote_Voter_Promised ⟨[(Value.pointer (some (⟨r1, 0, none⟩ : Addr))), (Value.int .i64 (1 : Int))]⟩ w14 fun e16 w17 =>
        ∃ n18 : Int, e16 = .returned (Value.int .i64 n18) ∧
        K (Value.bool (decide (n18 = (5 : Int)))) w17) (
        K (Value.bool false) w14)) (
      K (Value.bool false) w9)) (
    K (Value.bool false) w4)

theorem tidewaterlaw11_alive_eq  (w : World) (K : Value → World → Prop) : tidewaterlaw11_alive  w K = denF Tryd.prog callB Tryd.f14 .none [] w K := by kernel_rfl
theorem tidewaterlaw11_alive_ok  {w : World} {R : Ending → World → Prop} (h : tidewaterlaw11_alive  w fun v w' => R (.returned v) w') : Calls Tryd.prog fn_tidewaterlaw11_alive ⟨[]⟩ w R :=
  calls_of_den callB_ok mixed Tryd.func14 (tidewaterlaw11_alive_eq  w _ ▸ h)

/-- (*tidewater/tidewaterref11.Proposer).firsts -/
def tidewaterref11_Proposer_firsts (p1 : Option Addr) (l2 : Slc) (w : World) (K : Value → World → Prop) : Prop :=
  newS w (.cells ⟨[]⟩ 61) fun r3 w4 =>
  ∃ (I5 : (Slc) → (Int) → World → Prop) (mu6 : (Slc) → (Int) → World → Nat), I5 ((⟨(some (⟨r3, 0, none⟩ : Addr)), 0, 0⟩ : Slc)) ((0 : Int)) w4 ∧ (
  ∀ out7 : Slc, ∀ i8 : Int, ∀ w9 : World, I5 out7 i8 w9 → ∀ u10 u11 u12 u13 u14 u15 u16 u17 u18 u19 u20 u21 u22 u23 u24 u25 u26 u27 u28 u29 u30 u31 u32 u33 u34 u35 u36 u37 u38 u39 u40 u41 u42 u43 u44 u45 u46 u47 u48 u49 : Value,
    BIf (decide (i8 < ((l2.l : Nat) : Int))) (
      needSome l2.p fun a50 =>
      0 ≤ i8 ∧ i8 < ((l2.l : Nat) : Int) ∧
      ∃ n51 : Int, ∃ b52 : Bool, ∃ n53 : Int, ∃ t54 : List UInt8, rowAt w9 (Addr.add a50 ((Int.toNat i8) * 4)) 0 [(Value.int .i64 n51), (Value.bool b52), (Value.int .i64 n53), (strV t54)] ∧
      newS w9 (.cells ⟨[(Value.int .i64 (0 : Int)), (Value.bool false), (Value.int .i64 (0 : Int)), (strV ([] : List UInt8))]⟩ 61) fun r55 w56 =>
      canW w56 (⟨r55, 0, none⟩ : Addr) 4 ∧ ∀ w57 : World, w57 = setCells w56 (⟨r55, 0, none⟩ : Addr) 0 [(Value.int .i64 n51), (Value.bool b52), (Value.int .i64 n53), (strV t54)] →
      ∃ J58 : (Bool) → World → Prop,
      (
        ∃ n59 : Int, World.cell? (World.drew w57) (⟨r55, 0, none⟩ : Addr) = some (Value.int .i64 n59) ∧
        BIf (decide (n59 < (0 : Int))) (
          J58 (true) (World.drew w57)) (
          ∃ n60 : Int, World.cell? (World.drew w57) (⟨r55, 0, none⟩ : Addr) = some (Value.int .i64 n60) ∧
          needSome p1 fun a61 =>
          ∃ n62 : Int, World.cell? (World.drew w57) a61 = some (Value.int .i64 n62) ∧
          J58 ((decide (n62 ≤ n60))) (World.drew w57))) ∧ (
      ∀ old63 : Bool, ∀ w64 : World, J58 old63 w64 → ∀ u65 u66 u67 u68 u69 u70 u71 u72 u73 u74 u75 u76 : Value,
        ∃ (I77 : (Bool) → (Int) → World → Prop) (mu78 : (Bool) → (Int) → World → Nat), I77 (old63) ((0 : Int)) w64 ∧ (
        ∀ old79 : Bool, ∀ i80 : Int, ∀ w81 : World, I77 old79 i80 w81 → ∀ u82 u83 u84 u85 u86 u87 u88 u89 u90 u91 u92 u93 u94 : Value,
          BIf (decide (i80 < ((out7.l : Nat) : Int))) (
            needSome out7.p fun a95 =>
            0 ≤ i80 ∧ i80 < ((out7.l : Nat) : Int) ∧
            ∃ n96 : Int, ∃ b97 : Bool, ∃ n98 : Int, ∃ t99 : List UInt8, rowAt w81 (Addr.add a95 ((Int.toNat i80) * 4)) 0 [(Value.int .i64 n96), (Value.bool b97), (Value.int .i64 n98), (strV t99)] ∧
            newS w81 (.cells ⟨[(Value.int .i64 (0 : Int)), (Value.bool false), (Value.int .i64 (0 : Int)), (strV ([] : List UInt8))]⟩ 61) fun r100 w101 =>
            canW w101 (⟨r100, 0, none⟩ : Addr) 4 ∧ ∀ w102 : World, w102 = setCells w101 (⟨r100, 0, none⟩ : Addr) 0 [(Value.int .i64 n96), (Value.bool b97), (Value.int .i64 n98), (strV t99)] →
            BIf old79 (
              inR .i64 (i80 + (1 : Int)) ∧
              (I77 (true) ((i80 + (1 : Int))) w102 ∧ mu78 (true) ((i80 + (1 : Int))) w102 < mu78 old79 i80 w81)) (
              ∃ n103 : Int, World.cell? w102 (⟨r100, 0, none⟩ : Addr) = some (Value.int .i64 n103) ∧
              ∃ n104 : Int, World.cell? w102 (⟨r55, 0, none⟩ : Addr) = some (Value.int .i64 n104) ∧
              inR .i64 (i80 + (1 : Int)) ∧
              (I77 ((decide (n103 = n104))) ((i80 + (1 : Int))) w102 ∧ mu78 ((decide (n103 = n104))) ((i80 + (1 : Int))) w102 < mu78 old79 i80 w81))) (
            BIf (!old79) (
              ∃ n105 : Int, ∃ b106 : Bool, ∃ n107 : Int, ∃ t108 : List UInt8, rowAt w81 (⟨r55, 0, none⟩ : Addr) 0 [(Value.int .i64 n105), (Value.bool b106), (Value.int .i64 n107), (strV t108)] ∧
              newS w81 (.cells ⟨[(Value.int .i64 n105), (Value.bool b106), (Value.int .i64 n107), (strV t108)]⟩ 61) fun r109 w110 =>
              appendS 4 61 [(Value.int .i64 (0 : Int)), (Value.bool false), (Value.int .i64 (0 : Int)), (strV ([] : List UInt8))] w110 out7 (.slc (⟨(some (⟨r109, 0, none⟩ : Addr)), 1, 1⟩ : Slc)) fun s111 w112 =>
              inR .i64 (i8 + (1 : Int)) ∧
              (I5 (s111) ((i8 + (1 : Int))) w112 ∧ mu6 (s111) ((i8 + (1 : Int))) w112 < mu6 out7 i8 w9)) (
              inR .i64 (i8 + (1 : Int)) ∧
              (I5 (out7) ((i8 + (1 : Int))) w81 ∧ mu6 (out7) ((i8 + (1 : Int))) w81 < mu6 out7 i8 w9)))))) (
      K (Slc.v out7) w9))

theorem tidewaterref11_Proposer_firsts_eq (p1 : Option Addr) (l2 : Slc) (w : World) (K : Value → World → Prop) : tidewaterref11_Proposer_firsts p1 l2 w K = denF Tryd.prog callB Tryd.f67 (.two .none (.two .none (.two (.two .none (.one (.loop [(5, Sh.slc), (14, (Sh.int .i64))] [7, 8, 10, 15, 16, 17, 18, 19, 20, 21, 22, 23, 24, 25, 26, 27, 28, 29, 30, 31, 32, 33, 34, 35, 36, 37, 38, 39, 40, 41, 42, 43, 44, 45, 46, 47, 48, 49, 50, 51] (.two .none (.two .none (.two (.one (.two .none (.cut [(8, Sh.bool)] [18, 19, 20, 21, 22, 23, 24, 25, 26, 27, 28, 29] .none (.two (.two .none (.one (.loop [(8, Sh.bool), (32, (Sh.int .i64))] [10, 33, 34, 35, 36, 37, 38, 39, 40, 41, 42, 43, 44] .none))) .none)))) .none)))))) .none))) [(Value.pointer p1), (Slc.v l2)] w K := by kernel_rfl
theorem tidewaterref11_Proposer_firsts_ok (p1 : Option Addr) (l2 : Slc) {w : World} {R : Ending → World → Prop} (h : tidewaterref11_Proposer_firsts p1 l2 w fun v w' => R (.returned v) w') : Calls Tryd.prog fn_tidewaterref11_Proposer_firsts ⟨[(Value.pointer p1), (Slc.v l2)]⟩ w R :=
  calls_of_den callB_ok mixed Tryd.func67 (tidewaterref11_Proposer_firsts_eq p1 l2 w _ ▸ h)

/-- (*tidewater/tidewaterref11.Proposer).Accepted -/
def tidewaterref11_Proposer_Accepted (p1 : Option Addr) (from2 : Int) (yes3 : Bool) (w : World) (K : Value → World → Prop) : Prop :=
  Calls Tryd.prog fn_tidewaterref11_Proposer_Asks ⟨[(Value.pointer p1)]⟩ w fun e4 w5 =>
  ∃ t6 : List UInt8, ∃ b7 : Bool, e4 = .returned (Value.tuple ⟨[(strV t6), (Value.bool b7)]⟩) ∧
  BIf b7 (
    needSome p1 fun a8 =>
    ∃ s9 : Slc, World.cell? w5 (a8.add 3) = some (Slc.v s9) ∧
    newS w5 (.cells ⟨[(Value.int .i64 from2), (Value.bool yes3), (Value.int .i64 (0 : Int)), (strV ([] : List UInt8))]⟩ 61) fun r10 w11 =>
    appendS 4 61 [(Value.int .i64 (0 : Int)), (Value.bool false), (Value.int .i64 (0 : Int)), (strV ([] : List UInt8))] w11 s9 (.slc (⟨(some (⟨r10, 0, none⟩ : Addr)), 1, 1⟩ : Slc)) fun s12 w13 =>
    needSome p1 fun a14 =>
    canW w13 (a14.add 3) 1 ∧ ∀ w15 : World, w15 = World.setCell w13 (a14.add 3) (Slc.v s12) →
    K (Value.tuple #[]) w15) (
    K (Value.tuple #[]) w5)

theorem tidewaterref11_Proposer_Accepted_eq (p1 : Option Addr) (from2 : Int) (yes3 : Bool) (w : World) (K : Value → World → Prop) : tidewaterref11_Proposer_Accepted p1 from2 yes3 w K = denF Tryd.prog callB Tryd.f24 .none [(Value.pointer p1), (Value.int .i64 from2), (Value.bool yes3)] w K := by kernel_rfl
theorem tidewaterref11_Proposer_Accepted_ok (p1 : Option Addr) (from2 : Int) (yes3 : Bool) {w : World} {R : Ending → World → Prop} (h : tidewaterref11_Proposer_Accepted p1 from2 yes3 w fun v w' => R (.returned v) w') : Calls Tryd.prog fn_tidewaterref11_Proposer_Accepted ⟨[(Value.pointer p1), (Value.int .i64 from2), (Value.bool yes3)]⟩ w R :=
  calls_of_den callB_ok mixed Tryd.func24 (tidewaterref11_Proposer_Accepted_eq p1 from2 yes3 w _ ▸ h)

/-- (*tidewater/tidewaterref11.Proposer).Decided -/
def tidewaterref11_Proposer_Decided (p1 : Option Addr) (w : World) (K : Value → World → Prop) : Prop :=
  needSome p1 fun a2 =>
  ∃ s3 : Slc, World.cell? w (a2.add 3) = some (Slc.v s3) ∧
  Calls Tryd.prog fn_tidewaterref11_Proposer_firsts ⟨[(Value.pointer p1), (Slc.v s3)]⟩ w fun e4 w5 =>
  ∃ s6 : Slc, e4 = .returned (Slc.v s6) ∧
  ∃ (I7 : (Int) → (Int) → World → Prop) (mu8 : (Int) → (Int) → World → Nat), I7 ((0 : Int)) ((0 : Int)) w5 ∧ (
  ∀ n9 : Int, ∀ i10 : Int, ∀ w11 : World, I7 n9 i10 w11 → ∀ u12 u13 u14 u15 u16 u17 u18 u19 u20 : Value,
    BIf (decide (i10 < ((s6.l : Nat) : Int))) (
      needSome s6.p fun a21 =>
      0 ≤ i10 ∧ i10 < ((s6.l : Nat) : Int) ∧
      ∃ n22 : Int, ∃ b23 : Bool, ∃ n24 : Int, ∃ t25 : List UInt8, rowAt w11 (Addr.add a21 ((Int.toNat i10) * 4)) 0 [(Value.int .i64 n22), (Value.bool b23), (Value.int .i64 n24), (strV t25)] ∧
      newS w11 (.cells ⟨[(Value.int .i64 (0 : Int)), (Value.bool false), (Value.int .i64 (0 : Int)), (strV ([] : List UInt8))]⟩ 61) fun r26 w27 =>
      canW w27 (⟨r26, 0, none⟩ : Addr) 4 ∧ ∀ w28 : World, w28 = setCells w27 (⟨r26, 0, none⟩ : Addr) 0 [(Value.int .i64 n22), (Value.bool b23), (Value.int .i64 n24), (strV t25)] →
      ∃ b29 : Bool, World.cell? w28 (⟨r26, 1, none⟩ : Addr) = some (Value.bool b29) ∧
      BIf b29 (
        inR .i64 (n9 + (1 : Int)) ∧
        inR .i64 (i10 + (1 : Int)) ∧
        (I7 ((n9 + (1 : Int))) ((i10 + (1 : Int))) w28 ∧ mu8 ((n9 + (1 : Int))) ((i10 + (1 : Int))) w28 < mu8 n9 i10 w11)) (
        inR .i64 (i10 + (1 : Int)) ∧
        (I7 (n9) ((i10 + (1 : Int))) w28 ∧ mu8 (n9) ((i10 + (1 : Int))) w28 < mu8 n9 i10 w11))) (
      inR .i64 ((2 : Int) * n9) ∧
      needSome p1 fun a30 =>
      ∃ n31 : Int, World.cell? w11 a30 = some (Value.int .i64 n31) ∧
      BIf (decide (((2 : Int) * n9) ≤ n31)) (
        K (Value.tuple ⟨[(strV ([] : List UInt8)), (Value.bool false)]⟩) w11) (
        Calls Tryd.prog fn_tidewaterref11_Proposer_Asks ⟨[(Value.pointer p1)]⟩ w11 fun e32 w33 =>
        ∃ t34 : List UInt8, ∃ b35 : Bool, e32 = .returned (Value.tuple ⟨[(strV t34), (Value.bool b35)]⟩) ∧
        K (Value.tuple ⟨[(strV t34), (Value.bool true)]⟩) w33)))

theorem tidewaterref11_Proposer_Decided_eq (p1 : Option Addr) (w : World) (K : Value → World → Prop) : tidewaterref11_Proposer_Decided p1 w K = denF Tryd.prog callB Tryd.f25 (.two .none (.two .none (.two (.two .none (.one (.loop [(4, (Sh.int .i64)), (16, (Sh.int .i64))] [6, 17, 18, 19, 20, 21, 22, 23, 24] .none))) .none))) [(Value.pointer p1)] w K := by kernel_rfl
theorem tidewaterref11_Proposer_Decided_ok (p1 : Option Addr) {w : World} {R : Ending → World → Prop} (h : tidewaterref11_Proposer_Decided p1 w fun v w' => R (.returned v) w') : Calls Tryd.prog fn_tidewaterref11_Proposer_Decided ⟨[(Value.pointer p1)]⟩ w R :=
  calls_of_den callB_ok mixed Tryd.func25 (tidewaterref11_Proposer_Decided_eq p1 w _ ▸ h)

/-- (*tidewater/tidewaterref11.Proposer).Asks -/
def tidewaterref11_Proposer_Asks (p1 : Option Addr) (w : World) (K : Value → World → Prop) : Prop :=
  needSome p1 fun a2 =>
  ∃ t3 : List UInt8, World.cell? (World.drew w) (a2.add 1) = some (strV t3) ∧
  needSome p1 fun a4 =>
  ∃ s5 : Slc, World.cell? (World.drew w) (a4.add 2) = some (Slc.v s5) ∧
  Calls Tryd.prog fn_tidewaterref11_Proposer_firsts ⟨[(Value.pointer p1), (Slc.v s5)]⟩ (World.drew w) fun e6 w7 =>
  ∃ s8 : Slc, e6 = .returned (Slc.v s8) ∧
  ∃ (I9 : (Int) → (Int) → (List UInt8) → (Int) → World → Prop) (mu10 : (Int) → (Int) → (List UInt8) → (Int) → World → Nat), I9 ((0 : Int)) ((-1 : Int)) (t3) ((0 : Int)) w7 ∧ (
  ∀ n11 : Int, ∀ best12 : Int, ∀ text13 : List UInt8, ∀ i14 : Int, ∀ w15 : World, I9 n11 best12 text13 i14 w15 → ∀ u16 u17 u18 u19 u20 u21 u22 u23 u24 u25 u26 u27 u28 u29 u30 u31 u32 u33 u34 u35 u36 u37 u38 u39 u40 u41 u42 : Value,
    BIf (decide (i14 < ((s8.l : Nat) : Int))) (
      needSome s8.p fun a43 =>
      0 ≤ i14 ∧ i14 < ((s8.l : Nat) : Int) ∧
      ∃ n44 : Int, ∃ b45 : Bool, ∃ n46 : Int, ∃ t47 : List UInt8, rowAt w15 (Addr.add a43 ((Int.toNat i14) * 4)) 0 [(Value.int .i64 n44), (Value.bool b45), (Value.int .i64 n46), (strV t47)] ∧
      newS w15 (.cells ⟨[(Value.int .i64 (0 : Int)), (Value.bool false), (Value.int .i64 (0 : Int)), (strV ([] : List UInt8))]⟩ 61) fun r48 w49 =>
      canW w49 (⟨r48, 0, none⟩ : Addr) 4 ∧ ∀ w50 : World, w50 = setCells w49 (⟨r48, 0, none⟩ : Addr) 0 [(Value.int .i64 n44), (Value.bool b45), (Value.int .i64 n46), (strV t47)] →
      ∃ J51 : World → Prop,
      (
        ∃ b52 : Bool, World.cell? w50 (⟨r48, 1, none⟩ : Addr) = some (Value.bool b52) ∧
        BIf (!b52) (
          inR .i64 (i14 + (1 : Int)) ∧
          (I9 (n11) (best12) (text13) ((i14 + (1 : Int))) w50 ∧ mu10 (n11) (best12) (text13) ((i14 + (1 : Int))) w50 < mu10 n11 best12 text13 i14 w15)) (
          inR .i64 ((2 : Int) * n11) ∧
          needSome p1 fun a53 =>
          ∃ n54 : Int, World.cell? w50 a53 = some (Value.int .i64 n54) ∧
          BIf (decide (n54 < ((2 : Int) * n11))) (
            inR .i64 (i14 + (1 : Int)) ∧
            (I9 (n11) (best12) (text13) ((i14 + (1 : Int))) w50 ∧ mu10 (n11) (best12) (text13) ((i14 + (1 : Int))) w50 < mu10 n11 best12 text13 i14 w15)) (
            J51 w50))) ∧ (
      ∀ w55 : World, J51 w55 → ∀ u56 u57 u58 u59 u60 u61 u62 u63 u64 u65 u66 u67 : Value,
        inR .i64 (n11 + (1 : Int)) ∧
        ∃ n68 : Int, World.cell? w55 (⟨r48, 2, none⟩ : Addr) = some (Value.int .i64 n68) ∧
        BIf (decide (best12 < n68)) (
          ∃ n69 : Int, World.cell? (World.drew w55) (⟨r48, 2, none⟩ : Addr) = some (Value.int .i64 n69) ∧
          ∃ t70 : List UInt8, World.cell? (World.drew w55) (⟨r48, 3, none⟩ : Addr) = some (strV t70) ∧
          inR .i64 (i14 + (1 : Int)) ∧
          (I9 ((n11 + (1 : Int))) (n69) (t70) ((i14 + (1 : Int))) (World.drew w55) ∧ mu10 ((n11 + (1 : Int))) (n69) (t70) ((i14 + (1 : Int))) (World.drew w55) < mu10 n11 best12 text13 i14 w15)) (
          inR .i64 (i14 + (1 : Int)) ∧
          (I9 ((n11 + (1 : Int))) (best12) (text13) ((i14 + (1 : Int))) w55 ∧ mu10 ((n11 + (1 : Int))) (best12) (text13) ((i14 + (1 : Int))) w55 < mu10 n11 best12 text13 i14 w15)))) (
      inR .i64 ((2 : Int) * n11) ∧
      needSome p1 fun a71 =>
      ∃ n72 : Int, World.cell? w15 a71 = some (Value.int .i64 n72) ∧
      BIf (decide (((2 : Int) * n11) ≤ n72)) (
        K (Value.tuple ⟨[(strV ([] : List UInt8)), (Value.bool false)]⟩) w15) (
        K (Value.tuple ⟨[(strV text13), (Value.bool true)]⟩) w15)))

theorem tidewaterref11_Proposer_Asks_eq (p1 : Option Addr) (w : World) (K : Value → World → Prop) : tidewaterref11_Proposer_Asks p1 w K = denF Tryd.prog callB Tryd.f26 (.two .none (.two .none (.two (.two .none (.one (.loop [(4, (Sh.int .i64)), (5, (Sh.int .i64)), (6, Sh.str), (20, (Sh.int .i64))] [8, 21, 22, 23, 24, 25, 26, 27, 28, 29, 30, 31, 32, 33, 34, 35, 36, 37, 38, 39, 40, 41, 42, 43, 44, 45, 46] (.two .none (.two .none (.two (.one (.two .none (.cut [] [24, 25, 26, 27, 28, 29, 30, 31, 32, 33, 34, 35] .none .none))) .none)))))) .none))) [(Value.pointer p1)] w K := by kernel_rfl
theorem tidewaterref11_Proposer_Asks_ok (p1 : Option Addr) {w : World} {R : Ending → World → Prop} (h : tidewaterref11_Proposer_Asks p1 w fun v w' => R (.returned v) w') : Calls Tryd.prog fn_tidewaterref11_Proposer_Asks ⟨[(Value.pointer p1)]⟩ w R :=
  calls_of_den callB_ok mixed Tryd.func26 (tidewaterref11_Proposer_Asks_eq p1 w _ ▸ h)

/-- (*tidewater/tidewaterlaw11.side).begin -/
def tidewaterlaw11_side_begin (s1 : Option Addr) (voters2 : Int) (who3 : Int) (w : World) (K : Value → World → Prop) : Prop :=
  needSome s1 fun a4 =>
  ∃ n5 : Int, World.cell? w (a4.add 1) = some (Value.int .i64 n5) ∧
  inR .i64 (n5 + (4 : Int)) ∧
  needSome s1 fun a6 =>
  canW w (a6.add 1) 1 ∧ ∀ w7 : World, w7 = World.setCell w (a6.add 1) (Value.int .i64 (n5 + (4 : Int))) →
  needSome s1 fun a8 =>
  ∃ n9 : Int, World.cell? (World.drew w7) (a8.add 1) = some (Value.int .i64 n9) ∧
  inR .i64 ((97 : Int) + who3) ∧
  newS (World.drew w7) (.cells ⟨[(Value.int .u8 (IntKind.wrap .u8 ((97 : Int) + who3)))]⟩ 5) fun r10 w11 =>
  (∃ n12 : Int, World.cell? w11 (a8.add 1) = some (Value.int .i64 n12) ∧
  (Value.int .i64 n12) = (Value.int .i64 n9)) ∧
  ∃ t13 : List UInt8, bytesAt w11 (⟨(some (⟨r10, 0, none⟩ : Addr)), 1, 1⟩ : Slc) t13 ∧
  Calls Tryd.prog fn_vote_New ⟨[(Value.int .i64 voters2), (Value.int .i64 (1 : Int)), (Value.int .i64 n9), (strV t13)]⟩ w11 fun e14 w15 =>
  ∃ p16 : Option Addr, ∃ e17 : Value, e14 = .returned (Value.tuple ⟨[(Value.pointer p16), e17]⟩) ∧
  needSome s1 fun a18 =>
  canW w15 a18 1 ∧ ∀ w19 : World, w19 = World.setCell w15 a18 (Value.pointer p16) →
  isI e17 ∧
  BIf (isNilI e17) (
    K (Value.bool (!Option.isNone (p16 : Option Addr))) w19) (
    K (Value.bool false) w19)

theorem tidewaterlaw11_side_begin_eq (s1 : Option Addr) (voters2 : Int) (who3 : Int) (w : World) (K : Value → World → Prop) : tidewaterlaw11_side_begin s1 voters2 who3 w K = denF Tryd.prog callB Tryd.f15 .none [(Value.pointer s1), (Value.int .i64 voters2), (Value.int .i64 who3)] w K := by kernel_rfl
theorem tidewaterlaw11_side_begin_ok (s1 : Option Addr) (voters2 : Int) (who3 : Int) {w : World} {R : Ending → World → Prop} (h : tidewaterlaw11_side_begin s1 voters2 who3 w fun v w' => R (.returned v) w') : Calls Tryd.prog fn_tidewaterlaw11_side_begin ⟨[(Value.pointer s1), (Value.int .i64 voters2), (Value.int .i64 who3)]⟩ w R :=
  calls_of_den callB_ok mixed Tryd.func15 (tidewaterlaw11_side_begin_eq s1 voters2 who3 w _ ▸ h)

/-- tidewater/tidewaterlaw11.VoteOne -/
def tidewaterlaw11_VoteOne (voters1 : Int) (moves2 : Slc) (w : World) (K : Value → World → Prop) : Prop :=
  Calls Tryd.prog fn_tidewaterlaw11_alive ⟨[]⟩ w fun e3 w4 =>
  ∃ b5 : Bool, e3 = .returned (Value.bool b5) ∧
  BIf (!b5) (
    K (Value.bool false) w4) (
    BIf (decide ((100 : Int) < ((moves2.l : Nat) : Int))) (
      K (Value.bool true) w4) (
      0 ≤ (IntKind.wrap .u64 voters1) ∧ 0 < (5 : Int) ∧
      inR .i64 ((1 : Int) + (IntKind.wrap .i64 ((IntKind.wrap .u64 voters1) % (5 : Int)))) ∧
      newS w4 (.cells ⟨[(Value.map none)]⟩ 28) fun r6 w7 =>
      newS w7 (.cells ⟨[(Value.map none)]⟩ 28) fun r8 w9 =>
      newS w9 (.cells ⟨[(Value.map none)]⟩ 28) fun r10 w11 =>
      newS w11 (.cells ⟨[(Value.map none)]⟩ 28) fun r12 w13 =>
      newS w13 (.cells ⟨[(Value.map none)]⟩ 28) fun r14 w15 =>
      newS w15 (.cells ⟨[(Value.pointer none), (Value.pointer none), (Value.pointer none), (Value.pointer none), (Value.pointer none)]⟩ 29) fun r16 w17 =>
      canW w17 (⟨r16, 0, none⟩ : Addr) 5 ∧ ∀ w18 : World, w18 = setCells w17 (⟨r16, 0, none⟩ : Addr) 0 [(Value.pointer (some (⟨r6, 0, none⟩ : Addr))), (Value.pointer (some (⟨r8, 0, none⟩ : Addr))), (Value.pointer (some (⟨r10, 0, none⟩ : Addr))), (Value.pointer (some (⟨r12, 0, none⟩ : Addr))), (Value.pointer (some (⟨r14, 0, none⟩ : Addr)))] →
      newS w18 (.cells ⟨[(Value.pointer none), (Value.int .i64 (0 : Int)), (Value.pointer none), (Value.int .i64 (0 : Int)), (Value.pointer none), (Value.int .i64 (0 : Int)), (Value.pointer none), (Value.int .i64 (0 : Int))]⟩ 33) fun r19 w20 =>
      canW w20 (⟨r19, 0, none⟩ : Addr) 8 ∧ ∀ w21 : World, w21 = setCells w20 (⟨r19, 0, none⟩ : Addr) 0 [(Value.pointer none), (Value.int .i64 (0 : Int)), (Value.pointer none), (Value.int .i64 (0 : Int)), (Value.pointer none), (Value.int .i64 (0 : Int)), (Value.pointer none), (Value.int .i64 (0 : Int))] →
      ∃ (I22 : (Int) → World → Prop) (mu23 : (Int) → World → Nat), I22 ((0 : Int)) w21 ∧ (
      ∀ i24 : Int, ∀ w25 : World, I22 i24 w25 → ∀ u26 u27 u28 u29 u30 u31 u32 u33 u34 u35 u36 u37 u38 u39 u40 u41 : Value,
        BIf (decide (i24 < (4 : Int))) (
          inR .i64 (i24 - (4 : Int)) ∧
          0 ≤ i24 ∧ i24 < ((4 : Nat) : Int) ∧
          canW w25 ((Addr.add (⟨r19, 0, none⟩ : Addr) ((Int.toNat i24) * 2)).add 1) 1 ∧ ∀ w42 : World, w42 = World.setCell w25 ((Addr.add (⟨r19, 0, none⟩ : Addr) ((Int.toNat i24) * 2)).add 1) (Value.int .i64 (i24 - (4 : Int))) →
          0 ≤ i24 ∧ i24 < ((4 : Nat) : Int) ∧
          Calls Tryd.prog fn_tidewaterlaw11_side_begin ⟨[(Value.pointer (some (Addr.add (⟨r19, 0, none⟩ : Addr) ((Int.toNat i24) * 2)))), (Value.int .i64 ((1 : Int) + (IntKind.wrap .i64 ((IntKind.wrap .u64 voters1) % (5 : Int))))), (Value.int .i64 i24)]⟩ w42 fun e43 w44 =>
          ∃ b45 : Bool, e43 = .returned (Value.bool b45) ∧
          BIf (!b45) (
            K (Value.bool false) w44) (
            inR .i64 (i24 + (1 : Int)) ∧
            (I22 ((i24 + (1 : Int))) w44 ∧ mu23 ((i24 + (1 : Int))) w44 < mu23 i24 w25))) (
          ∃ (I46 : (List UInt8) → (Int) → World → Prop) (mu47 : (List UInt8) → (Int) → World → Nat), I46 (([] : List UInt8)) ((0 : Int)) w25 ∧ (
          ∀ decided48 : List UInt8, ∀ i49 : Int, ∀ w50 : World, I46 decided48 i49 w50 → ∀ u51 u52 u53 u54 u55 u56 u57 u58 u59 u60 u61 u62 u63 u64 u65 u66 u67 u68 u69 u70 u71 u72 u73 u74 u75 u76 u77 u78 u79 u80 u81 u82 u83 u84 u85 u86 u87 u88 u89 u90 u91 u92 u93 u94 u95 u96 u97 u98 u99 u100 u101 u102 u103 u104 u105 u106 u107 u108 u109 u110 u111 u112 u113 u114 u115 u116 u117 u118 u119 u120 u121 u122 u123 u124 u125 u126 u127 u128 u129 u130 u131 u132 u133 u134 u135 u136 u137 u138 u139 u140 u141 u142 u143 u144 u145 u146 u147 u148 u149 u150 u151 u152 u153 u154 u155 u156 u157 u158 u159 u160 u161 u162 u163 u164 : Value,
            BIf (decide (i49 < ((moves2.l : Nat) : Int))) (
              needSome moves2.p fun a165 =>
              0 ≤ i49 ∧ i49 < ((moves2.l : Nat) : Int) ∧
              ∃ n166 : Int, ∃ n167 : Int, ∃ b168 : Bool, ∃ b169 : Bool, rowAt w50 (Addr.add a165 ((Int.toNat i49) * 4)) 0 [(Value.int .i64 n166), (Value.int .i64 n167), (Value.bool b168), (Value.bool b169)] ∧
              newS w50 (.cells ⟨[(Value.int .i64 (0 : Int)), (Value.int .i64 (0 : Int)), (Value.bool false), (Value.bool false)]⟩ 36) fun r170 w171 =>
              canW w171 (⟨r170, 0, none⟩ : Addr) 4 ∧ ∀ w172 : World, w172 = setCells w171 (⟨r170, 0, none⟩ : Addr) 0 [(Value.int .i64 n166), (Value.int .i64 n167), (Value.bool b168), (Value.bool b169)] →
              ∃ n173 : Int, World.cell? (World.drew w172) (⟨r170, 0, none⟩ : Addr) = some (Value.int .i64 n173) ∧
              0 ≤ (IntKind.wrap .u64 n173) ∧ 0 < (4 : Int) ∧
              ∃ n174 : Int, World.cell? (World.drew w172) (⟨r170, 1, none⟩ : Addr) = some (Value.int .i64 n174) ∧
              0 ≤ (IntKind.wrap .u64 n174) ∧ 0 < (IntKind.wrap .u64 ((1 : Int) + (IntKind.wrap .i64 ((IntKind.wrap .u64 voters1) % (5 : Int))))) ∧
              0 ≤ (IntKind.wrap .i64 ((IntKind.wrap .u64 n173) % (4 : Int))) ∧ (IntKind.wrap .i64 ((IntKind.wrap .u64 n173) % (4 : Int))) < ((4 : Nat) : Int) ∧
              ∃ J175 : World → Prop,
              (
                ∃ b176 : Bool, World.cell? (World.drew w172) (⟨r170, 3, none⟩ : Addr) = some (Value.bool b176) ∧
                BIf b176 (
                  Calls Tryd.prog fn_tidewaterlaw11_side_begin ⟨[(Value.pointer (some (Addr.add (⟨r19, 0, none⟩ : Addr) ((Int.toNat (IntKind.wrap .i64 ((IntKind.wrap .u64 n173) % (4 : Int)))) * 2)))), (Value.int .i64 ((1 : Int) + (IntKind.wrap .i64 ((IntKind.wrap .u64 voters1) % (5 : Int))))), (Value.int .i64 (IntKind.wrap .i64 ((IntKind.wrap .u64 n173) % (4 : Int))))]⟩ (World.drew w172) fun e177 w178 =>
                  ∃ b179 : Bool, e177 = .returned (Value.bool b179) ∧
                  BIf (!b179) (
                    K (Value.bool false) w178) (
                    J175 w178)) (
                  J175 (World.drew w172))) ∧ (
              ∀ w180 : World, J175 w180 → ∀ u181 u182 u183 u184 u185 u186 u187 u188 u189 u190 : Value,
                ∃ J191 : World → Prop,
                (
                  ∃ p192 : Option Addr, World.cell? w180 (Addr.add (⟨r19, 0, none⟩ : Addr) ((Int.toNat (IntKind.wrap .i64 ((IntKind.wrap .u64 n173) % (4 : Int)))) * 2)) = some (Value.pointer p192) ∧
                  Calls Tryd.prog fn_vote_Proposer_Asks ⟨[(Value.pointer p192)]⟩ w180 fun e193 w194 =>
                  ∃ t195 : List UInt8, ∃ b196 : Bool, e193 = .returned (Value.tuple ⟨[(strV t195), (Value.bool b196)]⟩) ∧
                  ∃ J197 : (Bool) → World → Prop,
                  (
                    ∃ b198 : Bool, World.cell? w194 (⟨r170, 2, none⟩ : Addr) = some (Value.bool b198) ∧
                    BIf b198 (
                      J197 (b196) w194) (
                      J197 (false) w194)) ∧ (
                  ∀ x199 : Bool, ∀ w200 : World, J197 x199 w200 → ∀ u201 u202 u203 u204 : Value,
                    BIf x199 (
                      ∃ p205 : Option Addr, World.cell? (World.drew w200) (Addr.add (⟨r19, 0, none⟩ : Addr) ((Int.toNat (IntKind.wrap .i64 ((IntKind.wrap .u64 n173) % (4 : Int)))) * 2)) = some (Value.pointer p205) ∧
                      0 ≤ (IntKind.wrap .i64 ((IntKind.wrap .u64 n174) % (IntKind.wrap .u64 ((1 : Int) + (IntKind.wrap .i64 ((IntKind.wrap .u64 voters1) % (5 : Int))))))) ∧ (IntKind.wrap .i64 ((IntKind.wrap .u64 n174) % (IntKind.wrap .u64 ((1 : Int) + (IntKind.wrap .i64 ((IntKind.wrap .u64 voters1) % (5 : Int))))))) < ((5 : Nat) : Int) ∧
                      ∃ p206 : Option Addr, World.cell? (World.drew w200) (Addr.add (⟨r16, 0, none⟩ : Addr) ((Int.toNat (IntKind.wrap .i64 ((IntKind.wrap .u64 n174) % (IntKind.wrap .u64 ((1 : Int) + (IntKind.wrap .i64 ((IntKind.wrap .u64 voters1) % (5 : Int)))))))) * 1)) = some (Value.pointer p206) ∧
                      ∃ n207 : Int, World.cell? (World.drew w200) ((Addr.add (⟨r19, 0, none⟩ : Addr) ((Int.toNat (IntKind.wrap .i64 ((IntKind.wrap .u64 n173) % (4 : Int)))) * 2)).add 1) = some (Value.int .i64 n207) ∧
                      Calls Tryd.prog fn_vote_Voter_Accept ⟨[(Value.pointer p206), (Value.int .i64 (1 : Int)), (Value.int .i64 n207), (strV t195)]⟩ (World.drew w200) fun e208 w209 =>
                      ∃ b210 : Bool, e208 = .returned (Value.bool b210) ∧
                      (∃ p211 : Option Addr, World.cell? w209 (Addr.add (⟨r19, 0, none⟩ : Addr) ((Int.toNat (IntKind.wrap .i64 ((IntKind.wrap .u64 n173) % (4 : Int)))) * 2)) = some (Value.pointer p211) ∧
                      (Value.pointer p211) = (Value.pointer p205)) ∧
                      Calls Tryd.prog fn_vote_Proposer_Accepted ⟨[(Value.pointer p205), (Value.int .i64 (IntKind.wrap .i64 ((IntKind.wrap .u64 n174) % (IntKind.wrap .u64 ((1 : Int) + (IntKind.wrap .i64 ((IntKind.wrap .u64 voters1) % (5 : Int)))))))), (Value.bool b210)]⟩ w209 fun e212 w213 =>
                      ∃ b214 : Bool, e212 = .returned (Value.bool b214) ∧
                      J191 w213) (
                      ∃ b215 : Bool, World.cell? w200 (⟨r170, 2, none⟩ : Addr) = some (Value.bool b215) ∧
                      BIf (!b215) (
                        ∃ p216 : Option Addr, World.cell? (World.drew w200) (Addr.add (⟨r19, 0, none⟩ : Addr) ((Int.toNat (IntKind.wrap .i64 ((IntKind.wrap .u64 n173) % (4 : Int)))) * 2)) = some (Value.pointer p216) ∧
                        0 ≤ (IntKind.wrap .i64 ((IntKind.wrap .u64 n174) % (IntKind.wrap .u64 ((1 : Int) + (IntKind.wrap .i64 ((IntKind.wrap .u64 voters1) % (5 : Int))))))) ∧ (IntKind.wrap .i64 ((IntKind.wrap .u64 n174) % (IntKind.wrap .u64 ((1 : Int) + (IntKind.wrap .i64 ((IntKind.wrap .u64 voters1) % (5 : Int))))))) < ((5 : Nat) : Int) ∧
                        ∃ p217 : Option Addr, World.cell? (World.drew w200) (Addr.add (⟨r16, 0, none⟩ : Addr) ((Int.toNat (IntKind.wrap .i64 ((IntKind.wrap .u64 n174) % (IntKind.wrap .u64 ((1 : Int) + (IntKind.wrap .i64 ((IntKind.wrap .u64 voters1) % (5 : Int)))))))) * 1)) = some (Value.pointer p217) ∧
                        ∃ n218 : Int, World.cell? (World.drew w200) ((Addr.add (⟨r19, 0, none⟩ : Addr) ((Int.toNat (IntKind.wrap .i64 ((IntKind.wrap .u64 n173) % (4 : Int)))) * 2)).add 1) = some (Value.int .i64 n218) ∧
                        Calls Tryd.prog fn_vote_Voter_Prepare ⟨[(Value.pointer p217), (Value.int .i64 (1 : Int)), (Value.int .i64 n218)]⟩ (World.drew w200) fun e219 w220 =>
                        ∃ x221 : Bool, ∃ x222 : Int, ∃ x223 : List UInt8, e219 = .returned (Value.agg ⟨[(Value.bool x221), (Value.int .i64 x222), (strV x223)]⟩) ∧
                        (∃ p224 : Option Addr, World.cell? w220 (Addr.add (⟨r19, 0, none⟩ : Addr) ((Int.toNat (IntKind.wrap .i64 ((IntKind.wrap .u64 n173) % (4 : Int)))) * 2)) = some (Value.pointer p224) ∧
                        (Value.pointer p224) = (Value.pointer p216)) ∧
                        Calls Tryd.prog fn_vote_Proposer_Promise ⟨[(Value.pointer p216), (Value.int .i64 (IntKind.wrap .i64 ((IntKind.wrap .u64 n174) % (IntKind.wrap .u64 ((1 : Int) + (IntKind.wrap .i64 ((IntKind.wrap .u64 voters1) % (5 : Int)))))))), (Value.agg ⟨[(Value.bool x221), (Value.int .i64 x222), (strV x223)]⟩)]⟩ w220 fun e225 w226 =>
                        ∃ b227 : Bool, e225 = .returned (Value.bool b227) ∧
                        J191 w226) (
                        J191 w200)))) ∧ (
                ∀ w228 : World, J191 w228 → ∀ u229 u230 u231 u232 u233 u234 u235 u236 u237 u238 u239 u240 u241 u242 u243 u244 u245 u246 u247 u248 u249 u250 u251 u252 u253 u254 u255 u256 u257 u258 u259 u260 u261 u262 u263 u264 u265 u266 u267 u268 u269 u270 u271 u272 u273 u274 u275 : Value,
                  ∃ p276 : Option Addr, World.cell? w228 (Addr.add (⟨r19, 0, none⟩ : Addr) ((Int.toNat (IntKind.wrap .i64 ((IntKind.wrap .u64 n173) % (4 : Int)))) * 2)) = some (Value.pointer p276) ∧
                  Calls Tryd.prog fn_vote_Proposer_Decided ⟨[(Value.pointer p276)]⟩ w228 fun e277 w278 =>
                  ∃ t279 : List UInt8, ∃ b280 : Bool, e277 = .returned (Value.tuple ⟨[(strV t279), (Value.bool b280)]⟩) ∧
                  BIf (!b280) (
                    inR .i64 (i49 + (1 : Int)) ∧
                    (I46 (decided48) ((i49 + (1 : Int))) w278 ∧ mu47 (decided48) ((i49 + (1 : Int))) w278 < mu47 decided48 i49 w50)) (
                    BIf (!decide (decided48 = ([] : List UInt8))) (
                      BIf (!decide (t279 = decided48)) (
                        K (Value.bool false) w278) (
                        BIf (!decide ((((List.length t279) : Nat) : Int) = (1 : Int))) (
                          K (Value.bool false) w278) (
                          0 ≤ (0 : Int) ∧ (0 : Int) < ((List.length t279 : Nat) : Int) ∧
                          BIf (decide (((UInt8.toNat (List.getD t279 0 0) : Nat) : Int) < (97 : Int))) (
                            K (Value.bool false) w278) (
                            0 ≤ (0 : Int) ∧ (0 : Int) < ((List.length t279 : Nat) : Int) ∧
                            BIf (decide ((100 : Int) < ((UInt8.toNat (List.getD t279 0 0) : Nat) : Int))) (
                              K (Value.bool false) w278) (
                              inR .i64 (i49 + (1 : Int)) ∧
                              (I46 (t279) ((i49 + (1 : Int))) w278 ∧ mu47 (t279) ((i49 + (1 : Int))) w278 < mu47 decided48 i49 w50)))))) (
                      BIf (!decide ((((List.length t279) : Nat) : Int) = (1 : Int))) (
                        K (Value.bool false) w278) (
                        0 ≤ (0 : Int) ∧ (0 : Int) < ((List.length t279 : Nat) : Int) ∧
                        BIf (decide (((UInt8.toNat (List.getD t279 0 0) : Nat) : Int) < (97 : Int))) (
                          K (Value.bool false) w278) (
                          0 ≤ (0 : Int) ∧ (0 : Int) < ((List.length t279 : Nat) : Int) ∧
                          BIf (decide ((100 : Int) < ((UInt8.toNat (List.getD t279 0 0) : Nat) : Int))) (
                            K (Value.bool false) w278) (
                            inR .i64 (i49 + (1 : Int)) ∧
                            (I46 (t279) ((i49 + (1 : Int))) w278 ∧ mu47 (t279) ((i49 + (1 : Int))) w278 < mu47 decided48 i49 w50))))))))) (
              K (Value.bool true) w50))))))

theorem tidewaterlaw11_VoteOne_eq (voters1 : Int) (moves2 : Slc) (w : World) (K : Value → World → Prop) : tidewaterlaw11_VoteOne voters1 moves2 w K = denF Tryd.prog callB Tryd.f3 (.two .none (.two .none (.two .none (.two .none (.two .none (.two .none (.two (.two .none (.one (.loop [(41, (Sh.int .i64))] [4, 8, 42, 43, 44, 45, 46, 47, 48, 49, 50, 51, 52, 53, 54, 55] .none))) (.two .none (.two (.two .none (.one (.loop [(9, Sh.str), (58, (Sh.int .i64))] [4, 11, 12, 13, 14, 15, 16, 17, 18, 59, 60, 61, 62, 63, 64, 65, 66, 67, 68, 69, 70, 71, 72, 73, 74, 75, 76, 77, 78, 79, 80, 81, 82, 83, 84, 85, 86, 87, 88, 89, 90, 91, 92, 93, 94, 95, 96, 97, 98, 99, 100, 101, 102, 103, 104, 105, 106, 107, 108, 109, 110, 111, 112, 113, 114, 115, 116, 117, 118, 119, 120, 121, 122, 123, 124, 125, 126, 127, 128, 129, 130, 131, 132, 133, 134, 135, 136, 137, 138, 139, 140, 141, 142, 143, 144, 145, 146, 147, 148, 149, 150, 151, 152, 153, 154, 155, 156, 157, 158, 159, 160, 161, 162, 163] (.two .none (.two .none (.two (.one (.two .none (.two .none (.two .none (.cut [] [4, 76, 77, 78, 79, 80, 81, 82, 83, 84] .none (.cut [] [15, 16, 85, 86, 87, 88, 89, 90, 91, 92, 93, 94, 95, 96, 97, 98, 99, 100, 101, 102, 103, 104, 105, 106, 107, 108, 109, 110, 111, 112, 113, 114, 115, 116, 117, 118, 119, 120, 121, 122, 123, 124, 125, 126, 127, 128, 129] (.two .none (.cut [(97, Sh.bool)] [93, 94, 95, 96] .none .none)) .none)))))) .none)))))) .none))))))))) [(Value.int .i64 voters1), (Slc.v moves2)] w K := by kernel_rfl
theorem tidewaterlaw11_VoteOne_ok (voters1 : Int) (moves2 : Slc) {w : World} {R : Ending → World → Prop} (h : tidewaterlaw11_VoteOne voters1 moves2 w fun v w' => R (.returned v) w') : Calls Tryd.prog fn_tidewaterlaw11_VoteOne ⟨[(Value.int .i64 voters1), (Slc.v moves2)]⟩ w R :=
  calls_of_den callB_ok mixed Tryd.func3 (tidewaterlaw11_VoteOne_eq voters1 moves2 w _ ▸ h)

/-- tidewater/tidewaterlaw11.VoteProposes -/
def tidewaterlaw11_VoteProposes (voters1 : Int) (ballot2 : Int) (list3 : Slc) (w : World) (K : Value → World → Prop) : Prop :=
  Calls Tryd.prog fn_tidewaterlaw11_alive ⟨[]⟩ w fun e4 w5 =>
  ∃ b6 : Bool, e4 = .returned (Value.bool b6) ∧
  BIf (!b6) (
    K (Value.bool false) w5) (
    BIf (decide ((40 : Int) < ((list3.l : Nat) : Int))) (
      K (Value.bool true) w5) (
      Calls Tryd.prog fn_vote_New ⟨[(Value.int .i64 voters1), (Value.int .i64 (7 : Int)), (Value.int .i64 ballot2), (strV ([111, 119, 110] : List UInt8))]⟩ w5 fun e7 w8 =>
      ∃ p9 : Option Addr, ∃ e10 : Value, e7 = .returned (Value.tuple ⟨[(Value.pointer p9), e10]⟩) ∧
      ∃ J11 : World → Prop,
      (
        BIf (decide (voters1 < (1 : Int))) (
          BIf (Option.isNone (p9 : Option Addr)) (
            Calls Tryd.prog fn_tidewaternum_Num ⟨[e10]⟩ w8 fun e12 w13 =>
            ∃ n14 : Int, e12 = .returned (Value.int .i64 n14) ∧
            K (Value.bool (decide (n14 = (1 : Int)))) w13) (
            K (Value.bool false) w8)) (
          BIf (decide ((5 : Int) < voters1)) (
            BIf (Option.isNone (p9 : Option Addr)) (
              Calls Tryd.prog fn_tidewaternum_Num ⟨[e10]⟩ w8 fun e15 w16 =>
              ∃ n17 : Int, e15 = .returned (Value.int .i64 n17) ∧
              K (Value.bool (decide (n17 = (1 : Int)))) w16) (
              K (Value.bool false) w8)) (
            J11 w8))) ∧ (
      ∀ w18 : World, J11 w18 → ∀ u19 u20 u21 u22 u23 u24 u25 u26 u27 u28 u29 u30 u31 u32 : Value,
        BIf (decide (ballot2 < (0 : Int))) (
          BIf (Option.isNone (p9 : Option Addr)) (
            Calls Tryd.prog fn_tidewaternum_Num ⟨[e10]⟩ w18 fun e33 w34 =>
            ∃ n35 : Int, e33 = .returned (Value.int .i64 n35) ∧
            K (Value.bool (decide (n35 = (4 : Int)))) w34) (
            K (Value.bool false) w18)) (
          ∃ J36 : World → Prop,
          (
            isI e10 ∧
            BIf (!isNilI e10) (
              K (Value.bool false) w18) (
              BIf (Option.isNone (p9 : Option Addr)) (
                K (Value.bool false) w18) (
                J36 w18))) ∧ (
          ∀ w37 : World, J36 w37 → ∀ u38 u39 u40 u41 u42 u43 u44 : Value,
            newS w37 (.cells ⟨[(Value.int .i64 voters1), (strV ([111, 119, 110] : List UInt8)), (Slc.v (⟨none, 0, 0⟩ : Slc)), (Slc.v (⟨none, 0, 0⟩ : Slc))]⟩ 56) fun r45 w46 =>
            ∃ (I47 : (Int) → World → Prop) (mu48 : (Int) → World → Nat), I47 ((0 : Int)) w46 ∧ (
            ∀ i49 : Int, ∀ w50 : World, I47 i49 w50 → ∀ u51 u52 u53 u54 u55 u56 u57 u58 u59 u60 u61 u62 u63 u64 u65 u66 u67 u68 u69 u70 u71 u72 u73 u74 u75 u76 u77 u78 u79 u80 u81 u82 u83 u84 u85 u86 u87 u88 u89 u90 u91 u92 u93 u94 u95 u96 u97 u98 u99 u100 u101 u102 u103 u104 u105 u106 u107 u108 u109 u110 u111 u112 u113 u114 u115 u116 u117 u118 u119 u120 u121 u122 u123 u124 u125 u126 u127 u128 u129 u130 u131 u132 u133 u134 u135 u136 u137 u138 u139 u140 u141 u142 u143 u144 u145 u146 u147 u148 u149 u150 u151 u152 u153 u154 u155 u156 u157 u158 u159 u160 u161 u162 u163 u164 u165 u166 : Value,
              BIf (decide (i49 < ((list3.l : Nat) : Int))) (
                needSome list3.p fun a167 =>
                0 ≤ i49 ∧ i49 < ((list3.l : Nat) : Int) ∧
                ∃ n168 : Int, ∃ b169 : Bool, ∃ n170 : Int, ∃ t171 : List UInt8, ∃ b172 : Bool, ∃ b173 : Bool, rowAt w50 (Addr.add a167 ((Int.toNat i49) * 6)) 0 [(Value.int .i64 n168), (Value.bool b169), (Value.int .i64 n170), (strV t171), (Value.bool b172), (Value.bool b173)] ∧
                newS w50 (.cells ⟨[(Value.int .i64 (0 : Int)), (Value.bool false), (Value.int .i64 (0 : Int)), (strV ([] : List UInt8)), (Value.bool false), (Value.bool false)]⟩ 58) fun r174 w175 =>
                canW w175 (⟨r174, 0, none⟩ : Addr) 6 ∧ ∀ w176 : World, w176 = setCells w175 (⟨r174, 0, none⟩ : Addr) 0 [(Value.int .i64 n168), (Value.bool b169), (Value.int .i64 n170), (strV t171), (Value.bool b172), (Value.bool b173)] →
                ∃ t177 : List UInt8, World.cell? w176 (⟨r174, 3, none⟩ : Addr) = some (strV t177) ∧
                BIf (decide ((300 : Int) < (((List.length t177) : Nat) : Int))) (
                  K (Value.bool true) w176) (
                  ∃ J178 : World → Prop,
                  (
                    ∃ b179 : Bool, World.cell? w176 (⟨r174, 4, none⟩ : Addr) = some (Value.bool b179) ∧
                    BIf b179 (
                      ∃ n180 : Int, World.cell? w176 (⟨r174, 0, none⟩ : Addr) = some (Value.int .i64 n180) ∧
                      ∃ b181 : Bool, World.cell? w176 (⟨r174, 5, none⟩ : Addr) = some (Value.bool b181) ∧
                      Calls Tryd.prog fn_tidewaterref11_Proposer_Accepted ⟨[(Value.pointer (some (⟨r45, 0, none⟩ : Addr))), (Value.int .i64 n180), (Value.bool b181)]⟩ w176 fun e182 w183 =>
                      e182 = .returned (Value.tuple #[]) ∧
                      Calls Tryd.prog fn_tidewaterref11_Proposer_Decided ⟨[(Value.pointer (some (⟨r45, 0, none⟩ : Addr)))]⟩ w183 fun e184 w185 =>
                      ∃ t186 : List UInt8, ∃ b187 : Bool, e184 = .returned (Value.tuple ⟨[(strV t186), (Value.bool b187)]⟩) ∧
                      ∃ n188 : Int, World.cell? w185 (⟨r174, 0, none⟩ : Addr) = some (Value.int .i64 n188) ∧
                      ∃ b189 : Bool, World.cell? w185 (⟨r174, 5, none⟩ : Addr) = some (Value.bool b189) ∧
                      Calls Tryd.prog fn_vote_Proposer_Accepted ⟨[(Value.pointer p9), (Value.int .i64 n188), (Value.bool b189)]⟩ w185 fun e190 w191 =>
                      ∃ b192 : Bool, e190 = .returned (Value.bool b192) ∧
                      BIf (!(b192 == b187)) (
                        K (Value.bool false) w191) (
                        J178 w191)) (
                      ∃ s193 : Slc, World.cell? (World.drew w176) (⟨r45, 2, none⟩ : Addr) = some (Slc.v s193) ∧
                      ∃ n194 : Int, World.cell? (World.drew w176) (⟨r174, 0, none⟩ : Addr) = some (Value.int .i64 n194) ∧
                      ∃ b195 : Bool, World.cell? (World.drew w176) (⟨r174, 1, none⟩ : Addr) = some (Value.bool b195) ∧
                      ∃ n196 : Int, World.cell? (World.drew w176) (⟨r174, 2, none⟩ : Addr) = some (Value.int .i64 n196) ∧
                      ∃ t197 : List UInt8, World.cell? (World.drew w176) (⟨r174, 3, none⟩ : Addr) = some (strV t197) ∧
                      newS (World.drew w176) (.cells ⟨[(Value.int .i64 n194), (Value.bool b195), (Value.int .i64 n196), (strV t197)]⟩ 61) fun r198 w199 =>
                      (∃ s200 : Slc, World.cell? w199 (⟨r45, 2, none⟩ : Addr) = some (Slc.v s200) ∧
                      (Slc.v s200) = (Slc.v s193)) ∧
                      appendS 4 61 [(Value.int .i64 (0 : Int)), (Value.bool false), (Value.int .i64 (0 : Int)), (strV ([] : List UInt8))] w199 s193 (.slc (⟨(some (⟨r198, 0, none⟩ : Addr)), 1, 1⟩ : Slc)) fun s201 w202 =>
                      canW w202 (⟨r45, 2, none⟩ : Addr) 1 ∧ ∀ w203 : World, w203 = World.setCell w202 (⟨r45, 2, none⟩ : Addr) (Slc.v s201) →
                      Calls Tryd.prog fn_tidewaterref11_Proposer_Asks ⟨[(Value.pointer (some (⟨r45, 0, none⟩ : Addr)))]⟩ w203 fun e204 w205 =>
                      ∃ t206 : List UInt8, ∃ b207 : Bool, e204 = .returned (Value.tuple ⟨[(strV t206), (Value.bool b207)]⟩) ∧
                      ∃ n208 : Int, World.cell? w205 (⟨r174, 0, none⟩ : Addr) = some (Value.int .i64 n208) ∧
                      ∃ b209 : Bool, ∃ n210 : Int, ∃ t211 : List UInt8, rowAt w205 (⟨r174, 1, none⟩ : Addr) 0 [(Value.bool b209), (Value.int .i64 n210), (strV t211)] ∧
                      Calls Tryd.prog fn_vote_Proposer_Promise ⟨[(Value.pointer p9), (Value.int .i64 n208), (Value.agg ⟨[(Value.bool b209), (Value.int .i64 n210), (strV t211)]⟩)]⟩ w205 fun e212 w213 =>
                      ∃ b214 : Bool, e212 = .returned (Value.bool b214) ∧
                      BIf (!(b214 == b207)) (
                        K (Value.bool false) w213) (
                        J178 w213))) ∧ (
                  ∀ w215 : World, J178 w215 → ∀ u216 u217 u218 u219 u220 u221 u222 u223 u224 u225 u226 u227 u228 u229 u230 u231 u232 u233 u234 u235 u236 u237 u238 u239 u240 u241 u242 u243 u244 u245 u246 u247 u248 u249 u250 u251 u252 u253 u254 u255 u256 u257 u258 u259 u260 u261 u262 u263 u264 u265 u266 u267 u268 u269 u270 u271 u272 u273 u274 u275 : Value,
                    Calls Tryd.prog fn_vote_Proposer_Asks ⟨[(Value.pointer p9)]⟩ w215 fun e276 w277 =>
                    ∃ t278 : List UInt8, ∃ b279 : Bool, e276 = .returned (Value.tuple ⟨[(strV t278), (Value.bool b279)]⟩) ∧
                    Calls Tryd.prog fn_tidewaterref11_Proposer_Asks ⟨[(Value.pointer (some (⟨r45, 0, none⟩ : Addr)))]⟩ w277 fun e280 w281 =>
                    ∃ t282 : List UInt8, ∃ b283 : Bool, e280 = .returned (Value.tuple ⟨[(strV t282), (Value.bool b283)]⟩) ∧
                    Calls Tryd.prog fn_vote_Proposer_Decided ⟨[(Value.pointer p9)]⟩ w281 fun e284 w285 =>
                    ∃ t286 : List UInt8, ∃ b287 : Bool, e284 = .returned (Value.tuple ⟨[(strV t286), (Value.bool b287)]⟩) ∧
                    Calls Tryd.prog fn_tidewaterref11_Proposer_Decided ⟨[(Value.pointer (some (⟨r45, 0, none⟩ : Addr)))]⟩ w285 fun e288 w289 =>
                    ∃ t290 : List UInt8, ∃ b291 : Bool, e288 = .returned (Value.tuple ⟨[(strV t290), (Value.bool b291)]⟩) ∧
                    BIf (!decide (t278 = t282)) (
                      K (Value.bool false) w289) (
                      BIf (!(b279 == b283)) (
                        K (Value.bool false) w289) (
                        BIf (!decide (t286 = t290)) (
                          K (Value.bool false) w289) (
                          BIf (!(b287 == b291)) (
                            K (Value.bool false) w289) (
                            inR .i64 (i49 + (1 : Int)) ∧
                            (I47 ((i49 + (1 : Int))) w289 ∧ mu48 ((i49 + (1 : Int))) w289 < mu48 i49 w50)))))))) (
                K (Value.bool true) w50)))))))

theorem tidewaterlaw11_VoteProposes_eq (voters1 : Int) (ballot2 : Int) (list3 : Slc) (w : World) (K : Value → World → Prop) : tidewaterlaw11_VoteProposes voters1 ballot2 list3 w K = denF Tryd.prog callB Tryd.f4 (.two .none (.two .none (.two .none (.two .none (.cut [] [6, 35, 36, 37, 38, 39, 40, 41, 42, 43, 44, 45, 46, 47] .none (.two .none (.cut [] [6, 57, 58, 59, 60, 61, 62] .none (.two .none (.two (.two .none (.one (.loop [(68, (Sh.int .i64))] [6, 11, 12, 13, 14, 15, 16, 17, 18, 19, 20, 21, 22, 23, 69, 70, 71, 72, 73, 74, 75, 76, 77, 78, 79, 80, 81, 82, 83, 84, 85, 86, 87, 88, 89, 90, 91, 92, 93, 94, 95, 96, 97, 98, 99, 100, 101, 102, 103, 104, 105, 106, 107, 108, 109, 110, 111, 112, 113, 114, 115, 116, 117, 118, 119, 120, 121, 122, 123, 124, 125, 126, 127, 128, 129, 130, 131, 132, 133, 134, 135, 136, 137, 138, 139, 140, 141, 142, 143, 144, 145, 146, 147, 148, 149, 150, 151, 152, 153, 154, 155, 156, 157, 158, 159, 160, 161, 162, 163, 164, 165, 166, 167, 168, 169, 170] (.two .none (.two .none (.two (.one (.two .none (.two .none (.cut [] [6, 12, 13, 14, 15, 77, 78, 79, 80, 81, 82, 83, 84, 85, 86, 87, 88, 89, 90, 91, 92, 93, 94, 95, 96, 97, 98, 99, 100, 101, 102, 103, 104, 105, 106, 107, 108, 109, 110, 111, 112, 113, 114, 115, 116, 117, 118, 119, 120, 121, 122, 123, 124, 125, 126, 127, 128, 129, 130, 131] .none .none)))) .none)))))) .none))))))))) [(Value.int .i64 voters1), (Value.int .i64 ballot2), (Slc.v list3)] w K := by kernel_rfl
theorem tidewaterlaw11_VoteProposes_ok (voters1 : Int) (ballot2 : Int) (list3 : Slc) {w : World} {R : Ending → World → Prop} (h : tidewaterlaw11_VoteProposes voters1 ballot2 list3 w fun v w' => R (.returned v) w') : Calls Tryd.prog fn_tidewaterlaw11_VoteProposes ⟨[(Value.int .i64 voters1), (Value.int .i64 ballot2), (Slc.v list3)]⟩ w R :=
  calls_of_den callB_ok mixed Tryd.func4 (tidewaterlaw11_VoteProposes_eq voters1 ballot2 list3 w _ ▸ h)

end Go.D
