/-
  WHAT IS PROVED: verification conditions of functions of this program, each with its soundness. No further conditions.
-/
import Derived.Test.YtbkbipecfdfilaaDoorBase
set_option linter.unusedSimpArgs false
set_option maxRecDepth 100000
set_option linter.unusedVariables false
namespace Go.D
open Go Go.Proofs
/-- tidewater/dedup.New -/
def dedup_New  (w : World) (K : Value → World → Prop) : Prop :=
  newS w (.map #[] 0) fun r1 w2 =>
  newS w2 (.cells ⟨[(Value.map (some r1))]⟩ 60) fun r3 w4 =>
  K (Value.pointer (some (⟨r3, 0, none⟩ : Addr))) w4

theorem dedup_New_eq  (w : World) (K : Value → World → Prop) : dedup_New  w K = denF Tryd.prog callB Tryd.f6 .none [] w K := by kernel_rfl
theorem dedup_New_ok  {w : World} {R : Ending → World → Prop} (h : dedup_New  w fun v w' => R (.returned v) w') : Calls Tryd.prog fn_dedup_New ⟨[]⟩ w R :=
  calls_of_den callB_ok mixed Tryd.func6 (dedup_New_eq  w _ ▸ h)

/-- (*tidewater/dedup.Seen).Last -/
def dedup_Seen_Last (s1 : Option Addr) (client2 : Int) (w : World) (K : Value → World → Prop) : Prop :=
  newS w (.cells ⟨[(Value.int .i64 (0 : Int)), (Value.int .i64 (0 : Int))]⟩ 28) fun r3 w4 =>
  needSome s1 fun a5 =>
  ∃ m6 : Option Nat, World.cell? w4 a5 = some (Value.map m6) ∧
  ∃ es7 : Array MapEntry, mapIs w4 m6 es7 ∧
  ((mapGet (.int .i64) (Value.int .i64 client2) es7 = some none ∧
  newS w4 (.cells ⟨[(Value.int .i64 (0 : Int)), (Value.int .i64 (0 : Int)), (Value.int .i64 (0 : Int))]⟩ 62) fun r11 w12 =>
  canW w12 (⟨r11, 0, none⟩ : Addr) 3 ∧ ∀ w13 : World, w13 = setCells w12 (⟨r11, 0, none⟩ : Addr) 0 [(Value.int .i64 (0 : Int)), (Value.int .i64 (0 : Int)), (Value.int .i64 (0 : Int))] →
  ∃ n14 : Int, World.cell? (World.drew w13) (⟨r11, 0, none⟩ : Addr) = some (Value.int .i64 n14) ∧
  ∃ n15 : Int, ∃ n16 : Int, rowAt (World.drew w13) (⟨r11, 1, none⟩ : Addr) 0 [(Value.int .i64 n15), (Value.int .i64 n16)] ∧
  canW (World.drew w13) (⟨r3, 0, none⟩ : Addr) 2 ∧ ∀ w17 : World, w17 = setCells (World.drew w13) (⟨r3, 0, none⟩ : Addr) 0 [(Value.int .i64 n15), (Value.int .i64 n16)] →
  ∃ n18 : Int, ∃ n19 : Int, rowAt w17 (⟨r3, 0, none⟩ : Addr) 0 [(Value.int .i64 n18), (Value.int .i64 n19)] ∧
  K (Value.tuple ⟨[(Value.int .i64 n14), (Value.agg ⟨[(Value.int .i64 n18), (Value.int .i64 n19)]⟩), (Value.bool false)]⟩) w17) ∨
   (∃ x8 : Int, ∃ x9 : Int, ∃ x10 : Int, mapGet (.int .i64) (Value.int .i64 client2) es7 = some (some (Value.agg ⟨[(Value.int .i64 x8), (Value.int .i64 x9), (Value.int .i64 x10)]⟩)) ∧
  newS w4 (.cells ⟨[(Value.int .i64 (0 : Int)), (Value.int .i64 (0 : Int)), (Value.int .i64 (0 : Int))]⟩ 62) fun r20 w21 =>
  canW w21 (⟨r20, 0, none⟩ : Addr) 3 ∧ ∀ w22 : World, w22 = setCells w21 (⟨r20, 0, none⟩ : Addr) 0 [(Value.int .i64 x8), (Value.int .i64 x9), (Value.int .i64 x10)] →
  ∃ n23 : Int, World.cell? (World.drew w22) (⟨r20, 0, none⟩ : Addr) = some (Value.int .i64 n23) ∧
  ∃ n24 : Int, ∃ n25 : Int, rowAt (World.drew w22) (⟨r20, 1, none⟩ : Addr) 0 [(Value.int .i64 n24), (Value.int .i64 n25)] ∧
  canW (World.drew w22) (⟨r3, 0, none⟩ : Addr) 2 ∧ ∀ w26 : World, w26 = setCells (World.drew w22) (⟨r3, 0, none⟩ : Addr) 0 [(Value.int .i64 n24), (Value.int .i64 n25)] →
  ∃ n27 : Int, ∃ n28 : Int, rowAt w26 (⟨r3, 0, none⟩ : Addr) 0 [(Value.int .i64 n27), (Value.int .i64 n28)] ∧
  K (Value.tuple ⟨[(Value.int .i64 n23), (Value.agg ⟨[(Value.int .i64 n27), (Value.int .i64 n28)]⟩), (Value.bool true)]⟩) w26))

theorem dedup_Seen_Last_eq (s1 : Option Addr) (client2 : Int) (w : World) (K : Value → World → Prop) : dedup_Seen_Last s1 client2 w K = denF Tryd.prog callB Tryd.f7 .none [(Value.pointer s1), (Value.int .i64 client2)] w K := by kernel_rfl
theorem dedup_Seen_Last_ok (s1 : Option Addr) (client2 : Int) {w : World} {R : Ending → World → Prop} (h : dedup_Seen_Last s1 client2 w fun v w' => R (.returned v) w') : Calls Tryd.prog fn_dedup_Seen_Last ⟨[(Value.pointer s1), (Value.int .i64 client2)]⟩ w R :=
  calls_of_den callB_ok mixed Tryd.func7 (dedup_Seen_Last_eq s1 client2 w _ ▸ h)

/-- (*tidewater/dedup.Seen).Join -/
def dedup_Seen_Join (s1 : Option Addr) (o2 : Option Addr) (w : World) (K : Value → World → Prop) : Prop :=
  newS w (.cells ⟨[(Value.pointer s1)]⟩ 24) fun r3 w4 =>
  Calls Tryd.prog fn_dedup_Seen_rising ⟨[(Value.pointer o2)]⟩ w4 fun e5 w6 =>
  ∃ e7 : Value, e5 = .returned e7 ∧
  ∃ (gf58 : Nat) (first59 cap60 : List Value), e7 = .func (.func gf58) ⟨first59⟩ ⟨cap60⟩ ∧ callB gf58 = true ∧
  ∀ (D8 lr9 : Nat) (rc10 : Rec) (w11 : World), D8 = (World.heap w6).size → lr9 = D8 + 1 → w11 = World.alloc (World.alloc w6 (.deferred (some []))) (.loop (rc10 .ready none)) →
  (∀ n14 : Int, ∀ x15 : Int, ∀ x16 : Int, ∀ x17 : Int, ∀ (w12 : World) (R13 : Ending → World → Prop), (World.heap w12)[lr9]? = some (.loop (rc10 .ready none)) → (
    newS w12 (.cells ⟨[(Value.int .i64 (0 : Int)), (Value.int .i64 (0 : Int)), (Value.int .i64 (0 : Int))]⟩ 62) fun r18 w19 =>
    canW w19 (⟨r18, 0, none⟩ : Addr) 3 ∧ ∀ w20 : World, w20 = setCells w19 (⟨r18, 0, none⟩ : Addr) 0 [(Value.int .i64 x15), (Value.int .i64 x16), (Value.int .i64 x17)] →
    (World.heap w20)[lr9]? = some (.loop (rc10 .ready none)) ∧ ∀ w21 : World, w21 = World.putObj w20 lr9 (.loop (rc10 .busy none)) →
    ∃ n22 : Int, World.cell? (World.drew w21) (⟨r18, 0, none⟩ : Addr) = some (Value.int .i64 n22) ∧
    ∃ p23 : Option Addr, World.cell? (World.drew w21) (⟨r3, 0, none⟩ : Addr) = some (Value.pointer p23) ∧
    needSome p23 fun a24 =>
    ∃ m25 : Option Nat, World.cell? (World.drew w21) a24 = some (Value.map m25) ∧
    ∃ es26 : Array MapEntry, mapIs (World.drew w21) m25 es26 ∧
    ((mapGet (.int .i64) (Value.int .i64 n14) es26 = some none ∧
    BIf (decide ((0 : Int) < n22)) (
      ∃ p30 : Option Addr, World.cell? (World.drew (World.drew w21)) (⟨r3, 0, none⟩ : Addr) = some (Value.pointer p30) ∧
      needSome p30 fun a31 =>
      ∃ m32 : Option Nat, World.cell? (World.drew (World.drew w21)) a31 = some (Value.map m32) ∧
      ∃ n33 : Int, ∃ n34 : Int, ∃ n35 : Int, rowAt (World.drew (World.drew w21)) (⟨r18, 0, none⟩ : Addr) 0 [(Value.int .i64 n33), (Value.int .i64 n34), (Value.int .i64 n35)] ∧
      ∃ (mb36 : Nat) (es37 : Array MapEntry) (ck38 : Nat) (es39 : Array MapEntry) (ck40 : Nat), m32 = some mb36 ∧ (World.heap ((World.drew (World.drew w21))))[mb36]? = some (.map es37 ck38) ∧ mapPut (.int .i64) (Value.int .i64 n14) (Value.agg ⟨[(Value.int .i64 n33), (Value.int .i64 n34), (Value.int .i64 n35)]⟩) es37 ck38 = some (es39, ck40) ∧ ∀ w41 : World, w41 = setObjW (World.drew (World.drew w21)) mb36 (.map es39 ck40) →
      (World.heap w41)[lr9]? = some (.loop (rc10 .busy none)) ∧ ∀ w42 : World, w42 = World.putObj w41 lr9 (.loop (rc10 .ready none)) → R13 (.returned (.bool true)) w42) (
      (World.heap (World.drew w21))[lr9]? = some (.loop (rc10 .busy none)) ∧ ∀ w43 : World, w43 = World.putObj (World.drew w21) lr9 (.loop (rc10 .ready none)) → R13 (.returned (.bool true)) w43)) ∨
     (∃ x27 : Int, ∃ x28 : Int, ∃ x29 : Int, mapGet (.int .i64) (Value.int .i64 n14) es26 = some (some (Value.agg ⟨[(Value.int .i64 x27), (Value.int .i64 x28), (Value.int .i64 x29)]⟩)) ∧
    BIf (decide (x27 < n22)) (
      ∃ p44 : Option Addr, World.cell? (World.drew (World.drew w21)) (⟨r3, 0, none⟩ : Addr) = some (Value.pointer p44) ∧
      needSome p44 fun a45 =>
      ∃ m46 : Option Nat, World.cell? (World.drew (World.drew w21)) a45 = some (Value.map m46) ∧
      ∃ n47 : Int, ∃ n48 : Int, ∃ n49 : Int, rowAt (World.drew (World.drew w21)) (⟨r18, 0, none⟩ : Addr) 0 [(Value.int .i64 n47), (Value.int .i64 n48), (Value.int .i64 n49)] ∧
      ∃ (mb50 : Nat) (es51 : Array MapEntry) (ck52 : Nat) (es53 : Array MapEntry) (ck54 : Nat), m46 = some mb50 ∧ (World.heap ((World.drew (World.drew w21))))[mb50]? = some (.map es51 ck52) ∧ mapPut (.int .i64) (Value.int .i64 n14) (Value.agg ⟨[(Value.int .i64 n47), (Value.int .i64 n48), (Value.int .i64 n49)]⟩) es51 ck52 = some (es53, ck54) ∧ ∀ w55 : World, w55 = setObjW (World.drew (World.drew w21)) mb50 (.map es53 ck54) →
      (World.heap w55)[lr9]? = some (.loop (rc10 .busy none)) ∧ ∀ w56 : World, w56 = World.putObj w55 lr9 (.loop (rc10 .ready none)) → R13 (.returned (.bool true)) w56) (
      (World.heap (World.drew w21))[lr9]? = some (.loop (rc10 .busy none)) ∧ ∀ w57 : World, w57 = World.putObj (World.drew w21) lr9 (.loop (rc10 .ready none)) → R13 (.returned (.bool true)) w57)))) → YieldC Tryd.prog lr9 ⟨[(Value.int .i64 n14), (Value.agg ⟨[(Value.int .i64 x15), (Value.int .i64 x16), (Value.int .i64 x17)]⟩)]⟩ w12 R13) →
  Calls Tryd.prog gf58 ⟨first59 ++ Value.func (.yield lr9) #[] #[] :: cap60⟩ w11 fun e61 w62 => (∃ v, e61 = .returned v) ∧ (
    (World.heap w62)[lr9]? = some (.loop (rc10 .ready none)) ∧ ∀ w63 : World, w63 = World.putObj w62 lr9 (.loop (rc10 .exhausted none)) →
    (World.heap w63)[D8]? = some (.deferred (some [])) ∧ ∀ w64 : World, w64 = World.putObj w63 D8 (.deferred none) →
    K (Value.tuple #[]) w64)

theorem dedup_Seen_Join_eq (s1 : Option Addr) (o2 : Option Addr) (w : World) (K : Value → World → Prop) : dedup_Seen_Join s1 o2 w K = denF2 Tryd.prog callB Tryd.f8 (.two .none (.two .none (.one (.range [.one (Sh.int .i64), .agg [(Sh.int .i64), (Sh.int .i64), (Sh.int .i64)]] [] .none .none)))) [(Value.pointer s1), (Value.pointer o2)] w K := by kernel_rfl
theorem dedup_Seen_Join_ok (s1 : Option Addr) (o2 : Option Addr) {w : World} {R : Ending → World → Prop} (h : dedup_Seen_Join s1 o2 w fun v w' => R (.returned v) w') : Calls Tryd.prog fn_dedup_Seen_Join ⟨[(Value.pointer s1), (Value.pointer o2)]⟩ w R :=
  calls_of_den2 callB_ok mixed Tryd.func8 (dedup_Seen_Join_eq s1 o2 w _ ▸ h)

/-- (*tidewater/dedup.Seen).Copy -/
def dedup_Seen_Copy (s1 : Option Addr) (w : World) (K : Value → World → Prop) : Prop :=
  needSome s1 fun a2 =>
  ∃ m3 : Option Nat, World.cell? w a2 = some (Value.map m3) ∧
  Calls Tryd.prog fn_maps_Clone_last ⟨[(Value.map m3)]⟩ w fun e4 w5 =>
  ∃ m6 : Option Nat, e4 = .returned (Value.map m6) ∧
  newS w5 (.cells ⟨[(Value.map m6)]⟩ 60) fun r7 w8 =>
  K (Value.pointer (some (⟨r7, 0, none⟩ : Addr))) w8

theorem dedup_Seen_Copy_eq (s1 : Option Addr) (w : World) (K : Value → World → Prop) : dedup_Seen_Copy s1 w K = denF Tryd.prog callB Tryd.f9 .none [(Value.pointer s1)] w K := by kernel_rfl
theorem dedup_Seen_Copy_ok (s1 : Option Addr) {w : World} {R : Ending → World → Prop} (h : dedup_Seen_Copy s1 w fun v w' => R (.returned v) w') : Calls Tryd.prog fn_dedup_Seen_Copy ⟨[(Value.pointer s1)]⟩ w R :=
  calls_of_den callB_ok mixed Tryd.func9 (dedup_Seen_Copy_eq s1 w _ ▸ h)

/-- (*tidewater/dedup.Seen).Note -/
def dedup_Seen_Note (s1 : Option Addr) (client2 : Int) (seq3 : Int) (a4 : Int) (a5 : Int) (w : World) (K : Value → World → Prop) : Prop :=
  newS w (.cells ⟨[(Value.int .i64 a4), (Value.int .i64 a5)]⟩ 28) fun r6 w7 =>
  ∃ n8 : Int, ∃ n9 : Int, rowAt w7 (⟨r6, 0, none⟩ : Addr) 0 [(Value.int .i64 n8), (Value.int .i64 n9)] ∧
  Calls Tryd.prog fn_dedup_right ⟨[(Value.int .i64 client2), (Value.int .i64 seq3), (Value.agg ⟨[(Value.int .i64 n8), (Value.int .i64 n9)]⟩)]⟩ w7 fun e10 w11 =>
  ∃ b12 : Bool, e10 = .returned (Value.bool b12) ∧
  BIf (!b12) (
    ∃ v13 : Value, World.cell? w11 (⟨gl_ErrRange, 0, none⟩ : Addr) = some v13 ∧
    K v13 w11) (
    Calls Tryd.prog fn_dedup_Seen_Ask ⟨[(Value.pointer s1), (Value.int .i64 client2), (Value.int .i64 seq3)]⟩ w11 fun e14 w15 =>
    ∃ x16 : Int, ∃ x17 : Int, ∃ n18 : Int, e14 = .returned (Value.tuple ⟨[(Value.agg ⟨[(Value.int .i64 x16), (Value.int .i64 x17)]⟩), (Value.int .i64 n18)]⟩) ∧
    newS w15 (.cells ⟨[(Value.int .i64 (0 : Int)), (Value.int .i64 (0 : Int))]⟩ 28) fun r19 w20 =>
    canW w20 (⟨r19, 0, none⟩ : Addr) 2 ∧ ∀ w21 : World, w21 = setCells w20 (⟨r19, 0, none⟩ : Addr) 0 [(Value.int .i64 x16), (Value.int .i64 x17)] →
    BIf (!decide (n18 = (1 : Int))) (
      ∃ v22 : Value, World.cell? w21 (⟨gl_ErrStale, 0, none⟩ : Addr) = some v22 ∧
      K v22 w21) (
      needSome s1 fun a23 =>
      ∃ m24 : Option Nat, World.cell? (World.drew w21) a23 = some (Value.map m24) ∧
      ∃ n25 : Int, ∃ n26 : Int, rowAt (World.drew w21) (⟨r6, 0, none⟩ : Addr) 0 [(Value.int .i64 n25), (Value.int .i64 n26)] ∧
      ∃ (mb27 : Nat) (es28 : Array MapEntry) (ck29 : Nat) (es30 : Array MapEntry) (ck31 : Nat), m24 = some mb27 ∧ (World.heap ((World.drew w21)))[mb27]? = some (.map es28 ck29) ∧ mapPut (.int .i64) (Value.int .i64 client2) (Value.agg ⟨[(Value.int .i64 seq3), (Value.int .i64 n25), (Value.int .i64 n26)]⟩) es28 ck29 = some (es30, ck31) ∧ ∀ w32 : World, w32 = setObjW (World.drew w21) mb27 (.map es30 ck31) →
      K Value.nilIface w32))

theorem dedup_Seen_Note_eq (s1 : Option Addr) (client2 : Int) (seq3 : Int) (a4 : Int) (a5 : Int) (w : World) (K : Value → World → Prop) : dedup_Seen_Note s1 client2 seq3 a4 a5 w K = denF Tryd.prog callB Tryd.f10 .none [(Value.pointer s1), (Value.int .i64 client2), (Value.int .i64 seq3), (Value.agg ⟨[(Value.int .i64 a4), (Value.int .i64 a5)]⟩)] w K := by kernel_rfl
theorem dedup_Seen_Note_ok (s1 : Option Addr) (client2 : Int) (seq3 : Int) (a4 : Int) (a5 : Int) {w : World} {R : Ending → World → Prop} (h : dedup_Seen_Note s1 client2 seq3 a4 a5 w fun v w' => R (.returned v) w') : Calls Tryd.prog fn_dedup_Seen_Note ⟨[(Value.pointer s1), (Value.int .i64 client2), (Value.int .i64 seq3), (Value.agg ⟨[(Value.int .i64 a4), (Value.int .i64 a5)]⟩)]⟩ w R :=
  calls_of_den callB_ok mixed Tryd.func10 (dedup_Seen_Note_eq s1 client2 seq3 a4 a5 w _ ▸ h)

/-- (*tidewater/dedup.Seen).Ask -/
def dedup_Seen_Ask (s1 : Option Addr) (client2 : Int) (seq3 : Int) (w : World) (K : Value → World → Prop) : Prop :=
  newS w (.cells ⟨[(Value.int .i64 (0 : Int)), (Value.int .i64 (0 : Int))]⟩ 28) fun r4 w5 =>
  needSome s1 fun a6 =>
  ∃ m7 : Option Nat, World.cell? w5 a6 = some (Value.map m7) ∧
  ∃ es8 : Array MapEntry, mapIs w5 m7 es8 ∧
  ((mapGet (.int .i64) (Value.int .i64 client2) es8 = some none ∧
  newS w5 (.cells ⟨[(Value.int .i64 (0 : Int)), (Value.int .i64 (0 : Int)), (Value.int .i64 (0 : Int))]⟩ 62) fun r12 w13 =>
  canW w13 (⟨r12, 0, none⟩ : Addr) 3 ∧ ∀ w14 : World, w14 = setCells w13 (⟨r12, 0, none⟩ : Addr) 0 [(Value.int .i64 (0 : Int)), (Value.int .i64 (0 : Int)), (Value.int .i64 (0 : Int))] →
  ∃ J15 : (Bool) → World → Prop,
  (
    J15 (true) w14) ∧ (
  ∀ x16 : Bool, ∀ w17 : World, J15 x16 w17 → ∀ u18 u19 u20 u21 u22 u23 u24 u25 : Value,
    BIf x16 (
      canW w17 (⟨r4, 0, none⟩ : Addr) 2 ∧ ∀ w26 : World, w26 = setCells w17 (⟨r4, 0, none⟩ : Addr) 0 [(Value.int .i64 (0 : Int)), (Value.int .i64 (0 : Int))] →
      ∃ n27 : Int, ∃ n28 : Int, rowAt w26 (⟨r4, 0, none⟩ : Addr) 0 [(Value.int .i64 n27), (Value.int .i64 n28)] ∧
      K (Value.tuple ⟨[(Value.agg ⟨[(Value.int .i64 n27), (Value.int .i64 n28)]⟩), (Value.int .i64 (1 : Int))]⟩) w26) (
      ∃ n29 : Int, World.cell? w17 (⟨r12, 0, none⟩ : Addr) = some (Value.int .i64 n29) ∧
      BIf (decide (seq3 = n29)) (
        ∃ n30 : Int, ∃ n31 : Int, rowAt w17 (⟨r12, 1, none⟩ : Addr) 0 [(Value.int .i64 n30), (Value.int .i64 n31)] ∧
        canW w17 (⟨r4, 0, none⟩ : Addr) 2 ∧ ∀ w32 : World, w32 = setCells w17 (⟨r4, 0, none⟩ : Addr) 0 [(Value.int .i64 n30), (Value.int .i64 n31)] →
        ∃ n33 : Int, ∃ n34 : Int, rowAt w32 (⟨r4, 0, none⟩ : Addr) 0 [(Value.int .i64 n33), (Value.int .i64 n34)] ∧
        K (Value.tuple ⟨[(Value.agg ⟨[(Value.int .i64 n33), (Value.int .i64 n34)]⟩), (Value.int .i64 (2 : Int))]⟩) w32) (
        canW w17 (⟨r4, 0, none⟩ : Addr) 2 ∧ ∀ w35 : World, w35 = setCells w17 (⟨r4, 0, none⟩ : Addr) 0 [(Value.int .i64 (0 : Int)), (Value.int .i64 (0 : Int))] →
        ∃ n36 : Int, ∃ n37 : Int, rowAt w35 (⟨r4, 0, none⟩ : Addr) 0 [(Value.int .i64 n36), (Value.int .i64 n37)] ∧
        K (Value.tuple ⟨[(Value.agg ⟨[(Value.int .i64 n36), (Value.int .i64 n37)]⟩), (Value.int .i64 (3 : Int))]⟩) w35)))) ∨
   (∃ x9 : Int, ∃ x10 : Int, ∃ x11 : Int, mapGet (.int .i64) (Value.int .i64 client2) es8 = some (some (Value.agg ⟨[(Value.int .i64 x9), (Value.int .i64 x10), (Value.int .i64 x11)]⟩)) ∧
  newS w5 (.cells ⟨[(Value.int .i64 (0 : Int)), (Value.int .i64 (0 : Int)), (Value.int .i64 (0 : Int))]⟩ 62) fun r38 w39 =>
  canW w39 (⟨r38, 0, none⟩ : Addr) 3 ∧ ∀ w40 : World, w40 = setCells w39 (⟨r38, 0, none⟩ : Addr) 0 [(Value.int .i64 x9), (Value.int .i64 x10), (Value.int .i64 x11)] →
  ∃ J41 : (Bool) → World → Prop,
  (
    ∃ n42 : Int, World.cell? w40 (⟨r38, 0, none⟩ : Addr) = some (Value.int .i64 n42) ∧
    J41 ((decide (n42 < seq3))) w40) ∧ (
  ∀ x43 : Bool, ∀ w44 : World, J41 x43 w44 → ∀ u45 u46 u47 u48 u49 u50 u51 u52 : Value,
    BIf x43 (
      canW w44 (⟨r4, 0, none⟩ : Addr) 2 ∧ ∀ w53 : World, w53 = setCells w44 (⟨r4, 0, none⟩ : Addr) 0 [(Value.int .i64 (0 : Int)), (Value.int .i64 (0 : Int))] →
      ∃ n54 : Int, ∃ n55 : Int, rowAt w53 (⟨r4, 0, none⟩ : Addr) 0 [(Value.int .i64 n54), (Value.int .i64 n55)] ∧
      K (Value.tuple ⟨[(Value.agg ⟨[(Value.int .i64 n54), (Value.int .i64 n55)]⟩), (Value.int .i64 (1 : Int))]⟩) w53) (
      ∃ n56 : Int, World.cell? w44 (⟨r38, 0, none⟩ : Addr) = some (Value.int .i64 n56) ∧
      BIf (decide (seq3 = n56)) (
        ∃ n57 : Int, ∃ n58 : Int, rowAt w44 (⟨r38, 1, none⟩ : Addr) 0 [(Value.int .i64 n57), (Value.int .i64 n58)] ∧
        canW w44 (⟨r4, 0, none⟩ : Addr) 2 ∧ ∀ w59 : World, w59 = setCells w44 (⟨r4, 0, none⟩ : Addr) 0 [(Value.int .i64 n57), (Value.int .i64 n58)] →
        ∃ n60 : Int, ∃ n61 : Int, rowAt w59 (⟨r4, 0, none⟩ : Addr) 0 [(Value.int .i64 n60), (Value.int .i64 n61)] ∧
        K (Value.tuple ⟨[(Value.agg ⟨[(Value.int .i64 n60), (Value.int .i64 n61)]⟩), (Value.int .i64 (2 : Int))]⟩) w59) (
        canW w44 (⟨r4, 0, none⟩ : Addr) 2 ∧ ∀ w62 : World, w62 = setCells w44 (⟨r4, 0, none⟩ : Addr) 0 [(Value.int .i64 (0 : Int)), (Value.int .i64 (0 : Int))] →
        ∃ n63 : Int, ∃ n64 : Int, rowAt w62 (⟨r4, 0, none⟩ : Addr) 0 [(Value.int .i64 n63), (Value.int .i64 n64)] ∧
        K (Value.tuple ⟨[(Value.agg ⟨[(Value.int .i64 n63), (Value.int .i64 n64)]⟩), (Value.int .i64 (3 : Int))]⟩) w62)))))

theorem dedup_Seen_Ask_eq (s1 : Option Addr) (client2 : Int) (seq3 : Int) (w : World) (K : Value → World → Prop) : dedup_Seen_Ask s1 client2 seq3 w K = denF Tryd.prog callB Tryd.f15 (.two .none (.two .none (.two (.one (.cut [(19, Sh.bool)] [20, 21, 22, 23, 24, 25, 26, 27] .none .none)) .none))) [(Value.pointer s1), (Value.int .i64 client2), (Value.int .i64 seq3)] w K := by kernel_rfl
theorem dedup_Seen_Ask_ok (s1 : Option Addr) (client2 : Int) (seq3 : Int) {w : World} {R : Ending → World → Prop} (h : dedup_Seen_Ask s1 client2 seq3 w fun v w' => R (.returned v) w') : Calls Tryd.prog fn_dedup_Seen_Ask ⟨[(Value.pointer s1), (Value.int .i64 client2), (Value.int .i64 seq3)]⟩ w R :=
  calls_of_den callB_ok mixed Tryd.func15 (dedup_Seen_Ask_eq s1 client2 seq3 w _ ▸ h)

/-- tidewater/dedup.right -/
def dedup_right (client1 : Int) (seq2 : Int) (a3 : Int) (a4 : Int) (w : World) (K : Value → World → Prop) : Prop :=
  newS w (.cells ⟨[(Value.int .i64 a3), (Value.int .i64 a4)]⟩ 28) fun r5 w6 =>
  BIf (decide ((1 : Int) ≤ client1)) (
    BIf (decide (client1 ≤ (4 : Int))) (
      BIf (decide ((1 : Int) ≤ seq2)) (
        BIf (decide (seq2 ≤ (1073741824 : Int))) (
          ∃ n7 : Int, World.cell? w6 (⟨r5, 0, none⟩ : Addr) = some (Value.int .i64 n7) ∧
          BIf (decide (n7 = (1 : Int))) (
            ∃ n8 : Int, World.cell? w6 (⟨r5, 1, none⟩ : Addr) = some (Value.int .i64 n8) ∧
            BIf (decide ((0 : Int) ≤ n8)) (
              ∃ n9 : Int, World.cell? w6 (⟨r5, 1, none⟩ : Addr) = some (Value.int .i64 n9) ∧
              K (Value.bool (decide (n9 < (4096 : Int)))) w6) (
              K (Value.bool false) w6)) (
            ∃ n10 : Int, World.cell? w6 (⟨r5, 0, none⟩ : Addr) = some (Value.int .i64 n10) ∧
            BIf (decide (n10 = (2 : Int))) (
              ∃ n11 : Int, World.cell? w6 (⟨r5, 1, none⟩ : Addr) = some (Value.int .i64 n11) ∧
              BIf (decide ((0 : Int) ≤ n11)) (
                ∃ n12 : Int, World.cell? w6 (⟨r5, 1, none⟩ : Addr) = some (Value.int .i64 n12) ∧
                K (Value.bool (decide (n12 < (4096 : Int)))) w6) (
                K (Value.bool false) w6)) (
              K (Value.bool false) w6))) (
          K (Value.bool false) w6)) (
        K (Value.bool false) w6)) (
      K (Value.bool false) w6)) (
    K (Value.bool false) w6)

theorem dedup_right_eq (client1 : Int) (seq2 : Int) (a3 : Int) (a4 : Int) (w : World) (K : Value → World → Prop) : dedup_right client1 seq2 a3 a4 w K = denF Tryd.prog callB Tryd.f23 .none [(Value.int .i64 client1), (Value.int .i64 seq2), (Value.agg ⟨[(Value.int .i64 a3), (Value.int .i64 a4)]⟩)] w K := by kernel_rfl
theorem dedup_right_ok (client1 : Int) (seq2 : Int) (a3 : Int) (a4 : Int) {w : World} {R : Ending → World → Prop} (h : dedup_right client1 seq2 a3 a4 w fun v w' => R (.returned v) w') : Calls Tryd.prog fn_dedup_right ⟨[(Value.int .i64 client1), (Value.int .i64 seq2), (Value.agg ⟨[(Value.int .i64 a3), (Value.int .i64 a4)]⟩)]⟩ w R :=
  calls_of_den callB_ok mixed Tryd.func23 (dedup_right_eq client1 seq2 a3 a4 w _ ▸ h)

/-- (*tidewater/dedup.Seen).rising -/
def dedup_Seen_rising (s1 : Option Addr) (w : World) (K : Value → World → Prop) : Prop :=
  newS w (.cells ⟨[(Value.pointer s1)]⟩ 24) fun r2 w3 =>
  K (Value.func (.func 32) ⟨[]⟩ ⟨[(Value.pointer (some (⟨r2, 0, none⟩ : Addr)))]⟩) w3

theorem dedup_Seen_rising_eq (s1 : Option Addr) (w : World) (K : Value → World → Prop) : dedup_Seen_rising s1 w K = denF Tryd.prog callB Tryd.f21 .none [(Value.pointer s1)] w K := by kernel_rfl
theorem dedup_Seen_rising_ok (s1 : Option Addr) {w : World} {R : Ending → World → Prop} (h : dedup_Seen_rising s1 w fun v w' => R (.returned v) w') : Calls Tryd.prog fn_dedup_Seen_rising ⟨[(Value.pointer s1)]⟩ w R :=
  calls_of_den callB_ok mixed Tryd.func21 (dedup_Seen_rising_eq s1 w _ ▸ h)

/-- (*tidewater/dedup.Seen).rising$1 -/
def dedup_Seen_rising_1 (lr1 : Nat) (cap2 : Option Addr) (w : World) (K : Value → World → Prop) : Prop :=
  needSome cap2 fun a3 =>
  ∃ p4 : Option Addr, World.cell? w a3 = some (Value.pointer p4) ∧
  needSome p4 fun a5 =>
  ∃ m6 : Option Nat, World.cell? w a5 = some (Value.map m6) ∧
  Calls Tryd.prog fn_maps_Keys_last ⟨[(Value.map m6)]⟩ w fun e7 w8 =>
  ∃ e9 : Value, e7 = .returned e9 ∧
  Calls Tryd.prog fn_slices_Sorted_int ⟨[e9]⟩ w8 fun e10 w11 =>
  ∃ s12 : Slc, e10 = .returned (Slc.v s12) ∧
  ∃ (I13 : (Int) → World → Prop) (mu14 : (Int) → World → Nat), I13 ((0 : Int)) w11 ∧ (
  ∀ i15 : Int, ∀ w16 : World, I13 i15 w16 → ∀ u17 u18 u19 u20 u21 u22 u23 u24 u25 u26 u27 u28 u29 u30 u31 : Value,
    BIf (decide (i15 < ((s12.l : Nat) : Int))) (
      needSome s12.p fun a32 =>
      0 ≤ i15 ∧ i15 < ((s12.l : Nat) : Int) ∧
      ∃ n33 : Int, World.cell? w16 (Addr.add a32 ((Int.toNat i15) * 1)) = some (Value.int .i64 n33) ∧
      needSome cap2 fun a34 =>
      ∃ p35 : Option Addr, World.cell? w16 a34 = some (Value.pointer p35) ∧
      needSome p35 fun a36 =>
      ∃ m37 : Option Nat, World.cell? w16 a36 = some (Value.map m37) ∧
      ∃ es38 : Array MapEntry, mapIs w16 m37 es38 ∧
      ((mapGet (.int .i64) (Value.int .i64 n33) es38 = some none ∧
      YieldC Tryd.prog lr1 ⟨[(Value.int .i64 n33), (Value.agg ⟨[(Value.int .i64 (0 : Int)), (Value.int .i64 (0 : Int)), (Value.int .i64 (0 : Int))]⟩)]⟩ w16 fun e42 w43 =>
      ∃ b44 : Bool, e42 = .returned (.bool b44) ∧
      BIf (!b44) (
        K (Value.tuple #[]) w43) (
        inR .i64 (i15 + (1 : Int)) ∧
        (I13 ((i15 + (1 : Int))) w43 ∧ mu14 ((i15 + (1 : Int))) w43 < mu14 i15 w16))) ∨
       (∃ x39 : Int, ∃ x40 : Int, ∃ x41 : Int, mapGet (.int .i64) (Value.int .i64 n33) es38 = some (some (Value.agg ⟨[(Value.int .i64 x39), (Value.int .i64 x40), (Value.int .i64 x41)]⟩)) ∧
      YieldC Tryd.prog lr1 ⟨[(Value.int .i64 n33), (Value.agg ⟨[(Value.int .i64 x39), (Value.int .i64 x40), (Value.int .i64 x41)]⟩)]⟩ w16 fun e45 w46 =>
      ∃ b47 : Bool, e45 = .returned (.bool b47) ∧
      BIf (!b47) (
        K (Value.tuple #[]) w46) (
        inR .i64 (i15 + (1 : Int)) ∧
        (I13 ((i15 + (1 : Int))) w46 ∧ mu14 ((i15 + (1 : Int))) w46 < mu14 i15 w16))))) (
      K (Value.tuple #[]) w16))

theorem dedup_Seen_rising_1_eq (lr1 : Nat) (cap2 : Option Addr) (w : World) (K : Value → World → Prop) : dedup_Seen_rising_1 lr1 cap2 w K = denY Tryd.prog callB Tryd.f32 (.two .none (.one (.loop [(12, (Sh.int .i64))] [4, 13, 14, 15, 16, 17, 18, 19, 20, 21, 22, 23, 24, 25, 26] .none))) [(Value.func (.yield lr1) ⟨[]⟩ ⟨[]⟩), (Value.pointer cap2)] w K := by kernel_rfl
theorem dedup_Seen_rising_1_ok (lr1 : Nat) (cap2 : Option Addr) {w : World} {R : Ending → World → Prop} (h : dedup_Seen_rising_1 lr1 cap2 w fun v w' => R (.returned v) w') : Calls Tryd.prog fn_dedup_Seen_rising_1 ⟨[(Value.func (.yield lr1) ⟨[]⟩ ⟨[]⟩), (Value.pointer cap2)]⟩ w R :=
  calls_of_denY callB_ok mixed Tryd.func32 (dedup_Seen_rising_1_eq lr1 cap2 w _ ▸ h)

/-- maps.Clone[map[int]tidewater/dedup.last,int,tidewater/dedup.last] -/
def maps_Clone_last (m1 : Option Nat) (w : World) (K : Value → World → Prop) : Prop :=
  BIf (Option.isNone (m1 : Option Nat)) (
    K (Value.map none) w) (
    ∃ (m2 : Nat) (es3 : Array MapEntry) (ck4 : Nat), m1 = some m2 ∧ (World.heap w)[m2]? = some (.map es3 ck4) ∧ newS w (.map es3 ck4) fun r5 w6 =>
    ∃ m7 : Option Nat, (Value.iface 58 (Value.map (some r5))) = .iface 58 (Value.map m7) ∧
    K (Value.map m7) w6)

theorem maps_Clone_last_eq (m1 : Option Nat) (w : World) (K : Value → World → Prop) : maps_Clone_last m1 w K = denF Tryd.prog callB Tryd.f22 .none [(Value.map m1)] w K := by kernel_rfl
theorem maps_Clone_last_ok (m1 : Option Nat) {w : World} {R : Ending → World → Prop} (h : maps_Clone_last m1 w fun v w' => R (.returned v) w') : Calls Tryd.prog fn_maps_Clone_last ⟨[(Value.map m1)]⟩ w R :=
  calls_of_den callB_ok mixed Tryd.func22 (maps_Clone_last_eq m1 w _ ▸ h)

/-- (*tidewater/dedup.Seen).Bytes -/
def dedup_Seen_Bytes (s1 : Option Addr) (w : World) (K : Value → World → Prop) : Prop :=
  newS w (.cells ⟨[(Slc.v (⟨none, 0, 0⟩ : Slc)), Value.nilIface]⟩ 74) fun r2 w3 =>
  newS w3 (.cells ⟨[(Value.pointer none)]⟩ 72) fun r4 w5 =>
  canW w5 (⟨r4, 0, none⟩ : Addr) 1 ∧ ∀ w6 : World, w6 = World.setCell w5 (⟨r4, 0, none⟩ : Addr) (Value.pointer (some (⟨r2, 0, none⟩ : Addr))) →
  ∃ p7 : Option Addr, World.cell? (World.drew w6) (⟨r4, 0, none⟩ : Addr) = some (Value.pointer p7) ∧
  needSome s1 fun a8 =>
  ∃ m9 : Option Nat, World.cell? (World.drew w6) a8 = some (Value.map m9) ∧
  ∃ es10 : Array MapEntry, mapIs (World.drew w6) m9 es10 ∧
  Calls Tryd.prog fn_pack_Out_Num ⟨[(Value.pointer p7), (Value.int .i64 (((Array.size es10) : Nat) : Int))]⟩ (World.drew w6) fun e11 w12 =>
  e11 = .returned (Value.tuple #[]) ∧
  Calls Tryd.prog fn_dedup_Seen_rising ⟨[(Value.pointer s1)]⟩ w12 fun e13 w14 =>
  ∃ e15 : Value, e13 = .returned e15 ∧
  ∃ (gf52 : Nat) (first53 cap54 : List Value), e15 = .func (.func gf52) ⟨first53⟩ ⟨cap54⟩ ∧ callB gf52 = true ∧
  ∀ (D16 lr17 : Nat) (rc18 : Rec) (w19 : World), D16 = (World.heap w14).size → lr17 = D16 + 1 → w19 = World.alloc (World.alloc w14 (.deferred (some []))) (.loop (rc18 .ready none)) →
  (∀ n22 : Int, ∀ x23 : Int, ∀ x24 : Int, ∀ x25 : Int, ∀ (w20 : World) (R21 : Ending → World → Prop), (World.heap w20)[lr17]? = some (.loop (rc18 .ready none)) → (
    newS w20 (.cells ⟨[(Value.int .i64 (0 : Int)), (Value.int .i64 (0 : Int)), (Value.int .i64 (0 : Int))]⟩ 62) fun r26 w27 =>
    canW w27 (⟨r26, 0, none⟩ : Addr) 3 ∧ ∀ w28 : World, w28 = setCells w27 (⟨r26, 0, none⟩ : Addr) 0 [(Value.int .i64 x23), (Value.int .i64 x24), (Value.int .i64 x25)] →
    (World.heap w28)[lr17]? = some (.loop (rc18 .ready none)) ∧ ∀ w29 : World, w29 = World.putObj w28 lr17 (.loop (rc18 .busy none)) →
    ∃ n30 : Int, World.cell? w29 (⟨r26, 0, none⟩ : Addr) = some (Value.int .i64 n30) ∧
    ∃ n31 : Int, World.cell? w29 (⟨r26, 1, none⟩ : Addr) = some (Value.int .i64 n31) ∧
    ∃ n32 : Int, World.cell? w29 (⟨r26, 2, none⟩ : Addr) = some (Value.int .i64 n32) ∧
    newS w29 (.cells ⟨[(Value.int .i64 n22), (Value.int .i64 n30), (Value.int .i64 n31), (Value.int .i64 n32)]⟩ 3) fun r33 w34 =>
    ∃ (I35 : (Int) → World → Prop) (mu36 : (Int) → World → Nat), I35 ((0 : Int)) w34 ∧ (
    ∀ i37 : Int, ∀ w38 : World, I35 i37 w38 → ∀ u39 u40 u41 u42 u43 u44 u45 u46 : Value,
      BIf (decide (i37 < ((4 : Nat) : Int))) (
        0 ≤ i37 ∧ i37 < ((4 : Nat) : Int) ∧
        ∃ n47 : Int, World.cell? w38 (Addr.add (⟨r33, 0, none⟩ : Addr) ((Int.toNat i37) * 1)) = some (Value.int .i64 n47) ∧
        ∃ p48 : Option Addr, World.cell? w38 (⟨r4, 0, none⟩ : Addr) = some (Value.pointer p48) ∧
        Calls Tryd.prog fn_pack_Out_Num ⟨[(Value.pointer p48), (Value.int .i64 n47)]⟩ w38 fun e49 w50 =>
        e49 = .returned (Value.tuple #[]) ∧
        inR .i64 (i37 + (1 : Int)) ∧
        (I35 ((i37 + (1 : Int))) w50 ∧ mu36 ((i37 + (1 : Int))) w50 < mu36 i37 w38)) (
        (World.heap w38)[lr17]? = some (.loop (rc18 .busy none)) ∧ ∀ w51 : World, w51 = World.putObj w38 lr17 (.loop (rc18 .ready none)) → R21 (.returned (.bool true)) w51))) → YieldC Tryd.prog lr17 ⟨[(Value.int .i64 n22), (Value.agg ⟨[(Value.int .i64 x23), (Value.int .i64 x24), (Value.int .i64 x25)]⟩)]⟩ w20 R21) →
  Calls Tryd.prog gf52 ⟨first53 ++ Value.func (.yield lr17) #[] #[] :: cap54⟩ w19 fun e55 w56 => (∃ v, e55 = .returned v) ∧ (
    (World.heap w56)[lr17]? = some (.loop (rc18 .ready none)) ∧ ∀ w57 : World, w57 = World.putObj w56 lr17 (.loop (rc18 .exhausted none)) →
    ∃ p58 : Option Addr, World.cell? w57 (⟨r4, 0, none⟩ : Addr) = some (Value.pointer p58) ∧
    Calls Tryd.prog fn_pack_Out_Done ⟨[(Value.pointer p58)]⟩ w57 fun e59 w60 =>
    ∃ s61 : Slc, ∃ e62 : Value, e59 = .returned (Value.tuple ⟨[(Slc.v s61), e62]⟩) ∧
    (World.heap w60)[D16]? = some (.deferred (some [])) ∧ ∀ w63 : World, w63 = World.putObj w60 D16 (.deferred none) →
    K (Value.tuple ⟨[(Slc.v s61), e62]⟩) w63)

theorem dedup_Seen_Bytes_eq (s1 : Option Addr) (w : World) (K : Value → World → Prop) : dedup_Seen_Bytes s1 w K = denF2 Tryd.prog callB Tryd.f18 (.two .none (.two .none (.two .none (.two (.two .none (.one (.range [.one (Sh.int .i64), .agg [(Sh.int .i64), (Sh.int .i64), (Sh.int .i64)]] [] .none (.one (.two .none (.one (.loop [(33, (Sh.int .i64))] [8, 34, 35, 36, 37, 38, 39, 40] .none))))))) .none)))) [(Value.pointer s1)] w K := by kernel_rfl
theorem dedup_Seen_Bytes_ok (s1 : Option Addr) {w : World} {R : Ending → World → Prop} (h : dedup_Seen_Bytes s1 w fun v w' => R (.returned v) w') : Calls Tryd.prog fn_dedup_Seen_Bytes ⟨[(Value.pointer s1)]⟩ w R :=
  calls_of_den2 callB_ok mixed Tryd.func18 (dedup_Seen_Bytes_eq s1 w _ ▸ h)

/-- tidewater/dedup.Read -/
def dedup_Read (b1 : Slc) (w : World) (K : Value → World → Prop) : Prop :=
  Calls Tryd.prog fn_pack_Read ⟨[(Slc.v b1)]⟩ w fun e2 w3 =>
  ∃ p4 : Option Addr, e2 = .returned (Value.pointer p4) ∧
  Calls Tryd.prog fn_dedup_New ⟨[]⟩ w3 fun e5 w6 =>
  ∃ p7 : Option Addr, e5 = .returned (Value.pointer p7) ∧
  Calls Tryd.prog fn_pack_In_Num ⟨[(Value.pointer p4), (Value.int .i64 (4 : Int))]⟩ w6 fun e8 w9 =>
  ∃ n10 : Int, e8 = .returned (Value.int .i64 n10) ∧
  ∃ (I11 : (Int) → (Bool) → (Int) → World → Prop) (mu12 : (Int) → (Bool) → (Int) → World → Nat), I11 ((0 : Int)) (true) (n10) w9 ∧ (
  ∀ before13 : Int, ∀ ok14 : Bool, ∀ n15 : Int, ∀ w16 : World, I11 before13 ok14 n15 w16 → ∀ u17 u18 u19 u20 u21 u22 u23 u24 u25 u26 u27 u28 u29 u30 u31 u32 u33 u34 u35 u36 u37 u38 u39 u40 u41 u42 u43 u44 : Value,
    BIf (decide ((0 : Int) < n15)) (
      Calls Tryd.prog fn_pack_In_Num ⟨[(Value.pointer p4), (Value.int .i64 (4 : Int))]⟩ w16 fun e45 w46 =>
      ∃ n47 : Int, e45 = .returned (Value.int .i64 n47) ∧
      Calls Tryd.prog fn_pack_In_Num ⟨[(Value.pointer p4), (Value.int .i64 (1073741824 : Int))]⟩ w46 fun e48 w49 =>
      ∃ n50 : Int, e48 = .returned (Value.int .i64 n50) ∧
      Calls Tryd.prog fn_pack_In_Num ⟨[(Value.pointer p4), (Value.int .i64 (2 : Int))]⟩ w49 fun e51 w52 =>
      ∃ n53 : Int, e51 = .returned (Value.int .i64 n53) ∧
      Calls Tryd.prog fn_pack_In_Num ⟨[(Value.pointer p4), (Value.int .i64 (4095 : Int))]⟩ w52 fun e54 w55 =>
      ∃ n56 : Int, e54 = .returned (Value.int .i64 n56) ∧
      newS w55 (.cells ⟨[(Value.int .i64 (0 : Int)), (Value.int .i64 (0 : Int))]⟩ 28) fun r57 w58 =>
      canW w58 (⟨r57, 0, none⟩ : Addr) 2 ∧ ∀ w59 : World, w59 = setCells w58 (⟨r57, 0, none⟩ : Addr) 0 [(Value.int .i64 n53), (Value.int .i64 n56)] →
      BIf (decide (n47 ≤ before13)) (
        inR .i64 (n15 - (1 : Int)) ∧
        (I11 (n47) (false) ((n15 - (1 : Int))) w59 ∧ mu12 (n47) (false) ((n15 - (1 : Int))) w59 < mu12 before13 ok14 n15 w16)) (
        ∃ n60 : Int, ∃ n61 : Int, rowAt w59 (⟨r57, 0, none⟩ : Addr) 0 [(Value.int .i64 n60), (Value.int .i64 n61)] ∧
        Calls Tryd.prog fn_dedup_Seen_Note ⟨[(Value.pointer p7), (Value.int .i64 n47), (Value.int .i64 n50), (Value.agg ⟨[(Value.int .i64 n60), (Value.int .i64 n61)]⟩)]⟩ w59 fun e62 w63 =>
        ∃ e64 : Value, e62 = .returned e64 ∧
        isI e64 ∧
        BIf (!isNilI e64) (
          inR .i64 (n15 - (1 : Int)) ∧
          (I11 (n47) (false) ((n15 - (1 : Int))) w63 ∧ mu12 (n47) (false) ((n15 - (1 : Int))) w63 < mu12 before13 ok14 n15 w16)) (
          inR .i64 (n15 - (1 : Int)) ∧
          (I11 (n47) (ok14) ((n15 - (1 : Int))) w63 ∧ mu12 (n47) (ok14) ((n15 - (1 : Int))) w63 < mu12 before13 ok14 n15 w16)))) (
      Calls Tryd.prog fn_pack_In_End ⟨[(Value.pointer p4)]⟩ w16 fun e65 w66 =>
      ∃ e67 : Value, e65 = .returned e67 ∧
      isI e67 ∧
      BIf (!isNilI e67) (
        K (Value.tuple ⟨[(Value.pointer none), e67]⟩) w66) (
        BIf (!ok14) (
          ∃ v68 : Value, World.cell? (World.drew w66) (⟨gl_ErrForm, 0, none⟩ : Addr) = some v68 ∧
          K (Value.tuple ⟨[(Value.pointer none), v68]⟩) (World.drew w66)) (
          K (Value.tuple ⟨[(Value.pointer p7), Value.nilIface]⟩) w66))))

theorem dedup_Read_eq (b1 : Slc) (w : World) (K : Value → World → Prop) : dedup_Read b1 w K = denF Tryd.prog callB Tryd.f20 (.two .none (.two .none (.two .none (.two .none (.two (.two .none (.one (.loop [(6, (Sh.int .i64)), (7, Sh.bool), (8, (Sh.int .i64))] [9, 10, 11, 18, 19, 20, 21, 22, 23, 24, 25, 26, 27, 28, 29, 30, 31, 32, 33, 34, 35, 36, 37, 38, 39, 40, 41, 42] .none))) .none))))) [(Slc.v b1)] w K := by kernel_rfl
theorem dedup_Read_ok (b1 : Slc) {w : World} {R : Ending → World → Prop} (h : dedup_Read b1 w fun v w' => R (.returned v) w') : Calls Tryd.prog fn_dedup_Read ⟨[(Slc.v b1)]⟩ w R :=
  calls_of_den callB_ok mixed Tryd.func20 (dedup_Read_eq b1 w _ ▸ h)

end Go.D
