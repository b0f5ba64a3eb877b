/-
  WHAT IS PROVED: verification conditions of functions of this program, each with its soundness. No further conditions.
-/
import Derived.Test.YtbkbipecfdfilaaDoorBase
set_option linter.unusedSimpArgs false
set_option maxRecDepth 100000
set_option linter.unusedVariables false
namespace Go.D
open Go Go.Proofs
/-- (*tidewater/tidewaterref22.Seen).last -/
def tidewaterref22_Seen_last (s1 : Option Addr) (c2 : Int) (w : World) (K : Value → World → Prop) : Prop :=
  BIf (decide (c2 < (1 : Int))) (
    K (Value.int .i64 (0 : Int)) w) (
    BIf (decide ((4 : Int) < c2)) (
      K (Value.int .i64 (0 : Int)) w) (
      needSome s1 fun a3 =>
      0 ≤ c2 ∧ c2 < ((5 : Nat) : Int) ∧
      ∃ n4 : Int, World.cell? w (Addr.add a3 ((Int.toNat c2) * 1)) = some (Value.int .i64 n4) ∧
      K (Value.int .i64 n4) w))

theorem tidewaterref22_Seen_last_eq (s1 : Option Addr) (c2 : Int) (w : World) (K : Value → World → Prop) : tidewaterref22_Seen_last s1 c2 w K = denF Tryd.prog callB Tryd.f25 .none [(Value.pointer s1), (Value.int .i64 c2)] w K := by kernel_rfl
theorem tidewaterref22_Seen_last_ok (s1 : Option Addr) (c2 : Int) {w : World} {R : Ending → World → Prop} (h : tidewaterref22_Seen_last s1 c2 w fun v w' => R (.returned v) w') : Calls Tryd.prog fn_tidewaterref22_Seen_last ⟨[(Value.pointer s1), (Value.int .i64 c2)]⟩ w R :=
  calls_of_den callB_ok mixed Tryd.func25 (tidewaterref22_Seen_last_eq s1 c2 w _ ▸ h)

/-- (*tidewater/tidewaterref22.Seen).Ask -/
def tidewaterref22_Seen_Ask (s1 : Option Addr) (c2 : Int) (seq3 : Int) (w : World) (K : Value → World → Prop) : Prop :=
  newS w (.cells ⟨[(Value.int .i64 (0 : Int)), (Value.int .i64 (0 : Int))]⟩ 28) fun r4 w5 =>
  Calls Tryd.prog fn_tidewaterref22_Seen_last ⟨[(Value.pointer s1), (Value.int .i64 c2)]⟩ w5 fun e6 w7 =>
  ∃ n8 : Int, e6 = .returned (Value.int .i64 n8) ∧
  ∃ J9 : World → Prop,
  (
    BIf (decide (n8 = (0 : Int))) (
      canW w7 (⟨r4, 0, none⟩ : Addr) 2 ∧ ∀ w10 : World, w10 = setCells w7 (⟨r4, 0, none⟩ : Addr) 0 [(Value.int .i64 (0 : Int)), (Value.int .i64 (0 : Int))] →
      ∃ n11 : Int, ∃ n12 : Int, rowAt w10 (⟨r4, 0, none⟩ : Addr) 0 [(Value.int .i64 n11), (Value.int .i64 n12)] ∧
      K (Value.tuple ⟨[(Value.agg ⟨[(Value.int .i64 n11), (Value.int .i64 n12)]⟩), (Value.int .i64 (1 : Int))]⟩) w10) (
      BIf (decide (n8 < seq3)) (
        canW w7 (⟨r4, 0, none⟩ : Addr) 2 ∧ ∀ w13 : World, w13 = setCells w7 (⟨r4, 0, none⟩ : Addr) 0 [(Value.int .i64 (0 : Int)), (Value.int .i64 (0 : Int))] →
        ∃ n14 : Int, ∃ n15 : Int, rowAt w13 (⟨r4, 0, none⟩ : Addr) 0 [(Value.int .i64 n14), (Value.int .i64 n15)] ∧
        K (Value.tuple ⟨[(Value.agg ⟨[(Value.int .i64 n14), (Value.int .i64 n15)]⟩), (Value.int .i64 (1 : Int))]⟩) w13) (
        J9 w7))) ∧ (
  ∀ w16 : World, J9 w16 → ∀ u17 u18 u19 u20 u21 u22 u23 u24 u25 : Value,
    BIf (decide (seq3 = n8)) (
      needSome s1 fun a26 =>
      0 ≤ c2 ∧ c2 < ((5 : Nat) : Int) ∧
      ∃ n27 : Int, ∃ n28 : Int, rowAt w16 (Addr.add (a26.add 5) ((Int.toNat c2) * 2)) 0 [(Value.int .i64 n27), (Value.int .i64 n28)] ∧
      canW w16 (⟨r4, 0, none⟩ : Addr) 2 ∧ ∀ w29 : World, w29 = setCells w16 (⟨r4, 0, none⟩ : Addr) 0 [(Value.int .i64 n27), (Value.int .i64 n28)] →
      ∃ n30 : Int, ∃ n31 : Int, rowAt w29 (⟨r4, 0, none⟩ : Addr) 0 [(Value.int .i64 n30), (Value.int .i64 n31)] ∧
      K (Value.tuple ⟨[(Value.agg ⟨[(Value.int .i64 n30), (Value.int .i64 n31)]⟩), (Value.int .i64 (2 : Int))]⟩) w29) (
      canW w16 (⟨r4, 0, none⟩ : Addr) 2 ∧ ∀ w32 : World, w32 = setCells w16 (⟨r4, 0, none⟩ : Addr) 0 [(Value.int .i64 (0 : Int)), (Value.int .i64 (0 : Int))] →
      ∃ n33 : Int, ∃ n34 : Int, rowAt w32 (⟨r4, 0, none⟩ : Addr) 0 [(Value.int .i64 n33), (Value.int .i64 n34)] ∧
      K (Value.tuple ⟨[(Value.agg ⟨[(Value.int .i64 n33), (Value.int .i64 n34)]⟩), (Value.int .i64 (3 : Int))]⟩) w32))

theorem tidewaterref22_Seen_Ask_eq (s1 : Option Addr) (c2 : Int) (seq3 : Int) (w : World) (K : Value → World → Prop) : tidewaterref22_Seen_Ask s1 c2 seq3 w K = denF Tryd.prog callB Tryd.f16 (.two .none (.two .none (.cut [] [7, 12, 13, 14, 15, 16, 17, 18, 19] .none .none))) [(Value.pointer s1), (Value.int .i64 c2), (Value.int .i64 seq3)] w K := by kernel_rfl
theorem tidewaterref22_Seen_Ask_ok (s1 : Option Addr) (c2 : Int) (seq3 : Int) {w : World} {R : Ending → World → Prop} (h : tidewaterref22_Seen_Ask s1 c2 seq3 w fun v w' => R (.returned v) w') : Calls Tryd.prog fn_tidewaterref22_Seen_Ask ⟨[(Value.pointer s1), (Value.int .i64 c2), (Value.int .i64 seq3)]⟩ w R :=
  calls_of_den callB_ok mixed Tryd.func16 (tidewaterref22_Seen_Ask_eq s1 c2 seq3 w _ ▸ h)

/-- (*tidewater/tidewaterref22.Seen).Note -/
def tidewaterref22_Seen_Note (s1 : Option Addr) (c2 : Int) (seq3 : Int) (a4 : Int) (a5 : Int) (w : World) (K : Value → World → Prop) : Prop :=
  newS w (.cells ⟨[(Value.int .i64 a4), (Value.int .i64 a5)]⟩ 28) fun r6 w7 =>
  ∃ J8 : World → Prop,
  (
    BIf (decide (c2 < (1 : Int))) (
      K (Value.int .i64 (1 : Int)) w7) (
      BIf (decide ((4 : Int) < c2)) (
        K (Value.int .i64 (1 : Int)) w7) (
        BIf (decide (seq3 < (1 : Int))) (
          K (Value.int .i64 (1 : Int)) w7) (
          BIf (decide ((1073741824 : Int) < seq3)) (
            K (Value.int .i64 (1 : Int)) w7) (
            ∃ n9 : Int, World.cell? w7 (⟨r6, 0, none⟩ : Addr) = some (Value.int .i64 n9) ∧
            BIf (decide (n9 < (1 : Int))) (
              K (Value.int .i64 (1 : Int)) w7) (
              ∃ n10 : Int, World.cell? w7 (⟨r6, 0, none⟩ : Addr) = some (Value.int .i64 n10) ∧
              BIf (decide ((2 : Int) < n10)) (
                K (Value.int .i64 (1 : Int)) w7) (
                ∃ n11 : Int, World.cell? w7 (⟨r6, 1, none⟩ : Addr) = some (Value.int .i64 n11) ∧
                BIf (decide (n11 < (0 : Int))) (
                  K (Value.int .i64 (1 : Int)) w7) (
                  ∃ n12 : Int, World.cell? w7 (⟨r6, 1, none⟩ : Addr) = some (Value.int .i64 n12) ∧
                  BIf (decide ((4095 : Int) < n12)) (
                    K (Value.int .i64 (1 : Int)) w7) (
                    J8 w7))))))))) ∧ (
  ∀ w13 : World, J8 w13 → ∀ u14 u15 u16 u17 u18 u19 u20 u21 u22 u23 u24 u25 u26 u27 u28 u29 u30 u31 u32 u33 u34 u35 u36 u37 u38 u39 u40 u41 u42 u43 u44 u45 u46 u47 u48 : Value,
    needSome s1 fun a49 =>
    0 ≤ c2 ∧ c2 < ((5 : Nat) : Int) ∧
    ∃ n50 : Int, World.cell? w13 (Addr.add a49 ((Int.toNat c2) * 1)) = some (Value.int .i64 n50) ∧
    BIf (decide (seq3 ≤ n50)) (
      K (Value.int .i64 (19 : Int)) w13) (
      ∃ n51 : Int, ∃ n52 : Int, rowAt (World.drew w13) (⟨r6, 0, none⟩ : Addr) 0 [(Value.int .i64 n51), (Value.int .i64 n52)] ∧
      needSome s1 fun a53 =>
      0 ≤ c2 ∧ c2 < ((5 : Nat) : Int) ∧
      needSome s1 fun a54 =>
      canW (World.drew w13) (Addr.add a53 ((Int.toNat c2) * 1)) 1 ∧ ∀ w55 : World, w55 = World.setCell (World.drew w13) (Addr.add a53 ((Int.toNat c2) * 1)) (Value.int .i64 seq3) →
      (∃ n56 : Int, ∃ n57 : Int, rowAt w55 (⟨r6, 0, none⟩ : Addr) 0 [(Value.int .i64 n56), (Value.int .i64 n57)] ∧
      (Value.agg ⟨[(Value.int .i64 n56), (Value.int .i64 n57)]⟩) = (Value.agg ⟨[(Value.int .i64 n51), (Value.int .i64 n52)]⟩)) ∧
      0 ≤ c2 ∧ c2 < ((5 : Nat) : Int) ∧
      canW w55 (Addr.add (a54.add 5) ((Int.toNat c2) * 2)) 2 ∧ ∀ w58 : World, w58 = setCells w55 (Addr.add (a54.add 5) ((Int.toNat c2) * 2)) 0 [(Value.int .i64 n51), (Value.int .i64 n52)] →
      K (Value.int .i64 (0 : Int)) w58))

theorem tidewaterref22_Seen_Note_eq (s1 : Option Addr) (c2 : Int) (seq3 : Int) (a4 : Int) (a5 : Int) (w : World) (K : Value → World → Prop) : tidewaterref22_Seen_Note s1 c2 seq3 a4 a5 w K = denF Tryd.prog callB Tryd.f14 (.two .none (.cut [] [8, 9, 10, 11, 12, 13, 14, 15, 16, 17, 18, 19, 20, 21, 22, 23, 24, 25, 26, 27, 28, 29, 30, 31, 32, 33, 34, 35, 36, 37, 38, 39, 40, 41, 42] .none .none)) [(Value.pointer s1), (Value.int .i64 c2), (Value.int .i64 seq3), (Value.agg ⟨[(Value.int .i64 a4), (Value.int .i64 a5)]⟩)] w K := by kernel_rfl
theorem tidewaterref22_Seen_Note_ok (s1 : Option Addr) (c2 : Int) (seq3 : Int) (a4 : Int) (a5 : Int) {w : World} {R : Ending → World → Prop} (h : tidewaterref22_Seen_Note s1 c2 seq3 a4 a5 w fun v w' => R (.returned v) w') : Calls Tryd.prog fn_tidewaterref22_Seen_Note ⟨[(Value.pointer s1), (Value.int .i64 c2), (Value.int .i64 seq3), (Value.agg ⟨[(Value.int .i64 a4), (Value.int .i64 a5)]⟩)]⟩ w R :=
  calls_of_den callB_ok mixed Tryd.func14 (tidewaterref22_Seen_Note_eq s1 c2 seq3 a4 a5 w _ ▸ h)

/-- (*tidewater/tidewaterref22.Seen).Join -/
def tidewaterref22_Seen_Join (s1 : Option Addr) (o2 : Option Addr) (w : World) (K : Value → World → Prop) : Prop :=
  ∃ (I3 : (Int) → World → Prop) (mu4 : (Int) → World → Nat), I3 ((1 : Int)) w ∧ (
  ∀ c5 : Int, ∀ w6 : World, I3 c5 w6 → ∀ u7 u8 u9 u10 u11 u12 u13 u14 u15 u16 u17 u18 u19 u20 u21 u22 u23 u24 u25 u26 u27 u28 u29 u30 u31 u32 u33 u34 u35 u36 u37 u38 u39 u40 u41 u42 u43 u44 u45 : Value,
    BIf (decide (c5 < (5 : Int))) (
      needSome o2 fun a46 =>
      0 ≤ c5 ∧ c5 < ((5 : Nat) : Int) ∧
      ∃ n47 : Int, World.cell? (World.drew w6) (Addr.add a46 ((Int.toNat c5) * 1)) = some (Value.int .i64 n47) ∧
      needSome s1 fun a48 =>
      0 ≤ c5 ∧ c5 < ((5 : Nat) : Int) ∧
      ∃ n49 : Int, World.cell? (World.drew w6) (Addr.add a48 ((Int.toNat c5) * 1)) = some (Value.int .i64 n49) ∧
      BIf (decide (n49 < n47)) (
        needSome o2 fun a50 =>
        0 ≤ c5 ∧ c5 < ((5 : Nat) : Int) ∧
        ∃ n51 : Int, World.cell? (World.drew (World.drew w6)) (Addr.add a50 ((Int.toNat c5) * 1)) = some (Value.int .i64 n51) ∧
        needSome o2 fun a52 =>
        0 ≤ c5 ∧ c5 < ((5 : Nat) : Int) ∧
        ∃ n53 : Int, ∃ n54 : Int, rowAt (World.drew (World.drew w6)) (Addr.add (a52.add 5) ((Int.toNat c5) * 2)) 0 [(Value.int .i64 n53), (Value.int .i64 n54)] ∧
        needSome s1 fun a55 =>
        0 ≤ c5 ∧ c5 < ((5 : Nat) : Int) ∧
        needSome s1 fun a56 =>
        canW (World.drew (World.drew w6)) (Addr.add a55 ((Int.toNat c5) * 1)) 1 ∧ ∀ w57 : World, w57 = World.setCell (World.drew (World.drew w6)) (Addr.add a55 ((Int.toNat c5) * 1)) (Value.int .i64 n51) →
        0 ≤ c5 ∧ c5 < ((5 : Nat) : Int) ∧
        canW w57 (Addr.add (a56.add 5) ((Int.toNat c5) * 2)) 2 ∧ ∀ w58 : World, w58 = setCells w57 (Addr.add (a56.add 5) ((Int.toNat c5) * 2)) 0 [(Value.int .i64 n53), (Value.int .i64 n54)] →
        inR .i64 (c5 + (1 : Int)) ∧
        (I3 ((c5 + (1 : Int))) w58 ∧ mu4 ((c5 + (1 : Int))) w58 < mu4 c5 w6)) (
        inR .i64 (c5 + (1 : Int)) ∧
        (I3 ((c5 + (1 : Int))) (World.drew w6) ∧ mu4 ((c5 + (1 : Int))) (World.drew w6) < mu4 c5 w6))) (
      K (Value.tuple #[]) w6))

theorem tidewaterref22_Seen_Join_eq (s1 : Option Addr) (o2 : Option Addr) (w : World) (K : Value → World → Prop) : tidewaterref22_Seen_Join s1 o2 w K = denF Tryd.prog callB Tryd.f11 (.two .none (.one (.loop [(4, (Sh.int .i64))] [5, 6, 7, 8, 9, 10, 11, 12, 13, 14, 15, 16, 17, 18, 19, 20, 21, 22, 23, 24, 25, 26, 27, 28, 29, 30, 31, 32, 33, 34, 35, 36, 37, 38, 39, 40, 41, 42, 43] .none))) [(Value.pointer s1), (Value.pointer o2)] w K := by kernel_rfl
theorem tidewaterref22_Seen_Join_ok (s1 : Option Addr) (o2 : Option Addr) {w : World} {R : Ending → World → Prop} (h : tidewaterref22_Seen_Join s1 o2 w fun v w' => R (.returned v) w') : Calls Tryd.prog fn_tidewaterref22_Seen_Join ⟨[(Value.pointer s1), (Value.pointer o2)]⟩ w R :=
  calls_of_den callB_ok mixed Tryd.func11 (tidewaterref22_Seen_Join_eq s1 o2 w _ ▸ h)

/-- (*tidewater/tidewaterref22.Seen).Copy -/
def tidewaterref22_Seen_Copy (s1 : Option Addr) (w : World) (K : Value → World → Prop) : Prop :=
  needSome s1 fun a2 =>
  ∃ n3 : Int, ∃ n4 : Int, ∃ n5 : Int, ∃ n6 : Int, ∃ n7 : Int, ∃ n8 : Int, ∃ n9 : Int, ∃ n10 : Int, ∃ n11 : Int, ∃ n12 : Int, ∃ n13 : Int, ∃ n14 : Int, ∃ n15 : Int, ∃ n16 : Int, ∃ n17 : Int, rowAt w a2 0 [(Value.int .i64 n3), (Value.int .i64 n4), (Value.int .i64 n5), (Value.int .i64 n6), (Value.int .i64 n7), (Value.int .i64 n8), (Value.int .i64 n9), (Value.int .i64 n10), (Value.int .i64 n11), (Value.int .i64 n12), (Value.int .i64 n13), (Value.int .i64 n14), (Value.int .i64 n15), (Value.int .i64 n16), (Value.int .i64 n17)] ∧
  newS w (.cells ⟨[(Value.int .i64 (0 : Int)), (Value.int .i64 (0 : Int)), (Value.int .i64 (0 : Int)), (Value.int .i64 (0 : Int)), (Value.int .i64 (0 : Int)), (Value.int .i64 (0 : Int)), (Value.int .i64 (0 : Int)), (Value.int .i64 (0 : Int)), (Value.int .i64 (0 : Int)), (Value.int .i64 (0 : Int)), (Value.int .i64 (0 : Int)), (Value.int .i64 (0 : Int)), (Value.int .i64 (0 : Int)), (Value.int .i64 (0 : Int)), (Value.int .i64 (0 : Int))]⟩ 42) fun r18 w19 =>
  canW w19 (⟨r18, 0, none⟩ : Addr) 15 ∧ ∀ w20 : World, w20 = setCells w19 (⟨r18, 0, none⟩ : Addr) 0 [(Value.int .i64 n3), (Value.int .i64 n4), (Value.int .i64 n5), (Value.int .i64 n6), (Value.int .i64 n7), (Value.int .i64 n8), (Value.int .i64 n9), (Value.int .i64 n10), (Value.int .i64 n11), (Value.int .i64 n12), (Value.int .i64 n13), (Value.int .i64 n14), (Value.int .i64 n15), (Value.int .i64 n16), (Value.int .i64 n17)] →
  K (Value.pointer (some (⟨r18, 0, none⟩ : Addr))) w20

theorem tidewaterref22_Seen_Copy_eq (s1 : Option Addr) (w : World) (K : Value → World → Prop) : tidewaterref22_Seen_Copy s1 w K = denF Tryd.prog callB Tryd.f12 .none [(Value.pointer s1)] w K := by kernel_rfl
theorem tidewaterref22_Seen_Copy_ok (s1 : Option Addr) {w : World} {R : Ending → World → Prop} (h : tidewaterref22_Seen_Copy s1 w fun v w' => R (.returned v) w') : Calls Tryd.prog fn_tidewaterref22_Seen_Copy ⟨[(Value.pointer s1)]⟩ w R :=
  calls_of_den callB_ok mixed Tryd.func12 (tidewaterref22_Seen_Copy_eq s1 w _ ▸ h)

/-- (*tidewater/tidewaterref22.Seen).Bytes -/
def tidewaterref22_Seen_Bytes (s1 : Option Addr) (w : World) (K : Value → World → Prop) : Prop :=
  newS w (.cells ⟨[(Value.int .u8 (0 : Int))]⟩ 5) fun r2 w3 =>
  ∃ (I4 : (Slc) → (Int) → World → Prop) (mu5 : (Slc) → (Int) → World → Nat), I4 ((⟨(some (⟨r2, 0, none⟩ : Addr)), 1, 1⟩ : Slc)) ((1 : Int)) w3 ∧ (
  ∀ out6 : Slc, ∀ c7 : Int, ∀ w8 : World, I4 out6 c7 w8 → ∀ u9 u10 u11 u12 u13 u14 u15 u16 u17 u18 u19 u20 u21 u22 u23 u24 u25 u26 u27 u28 u29 u30 u31 u32 u33 u34 u35 u36 u37 u38 u39 u40 u41 u42 u43 u44 u45 u46 u47 u48 u49 u50 u51 u52 u53 u54 u55 u56 u57 : Value,
    BIf (decide (c7 < (5 : Int))) (
      needSome s1 fun a58 =>
      0 ≤ c7 ∧ c7 < ((5 : Nat) : Int) ∧
      ∃ n59 : Int, World.cell? w8 (Addr.add a58 ((Int.toNat c7) * 1)) = some (Value.int .i64 n59) ∧
      BIf (decide ((0 : Int) < n59)) (
        needSome out6.p fun a60 =>
        0 ≤ (0 : Int) ∧ (0 : Int) < ((out6.l : Nat) : Int) ∧
        ∃ n61 : Int, World.cell? w8 a60 = some (Value.int .u8 n61) ∧
        needSome out6.p fun a62 =>
        0 ≤ (0 : Int) ∧ (0 : Int) < ((out6.l : Nat) : Int) ∧
        canW w8 a62 1 ∧ ∀ w63 : World, w63 = World.setCell w8 a62 (Value.int .u8 (IntKind.wrap .u8 (n61 + (1 : Int)))) →
        needSome s1 fun a64 =>
        0 ≤ c7 ∧ c7 < ((5 : Nat) : Int) ∧
        ∃ n65 : Int, World.cell? (World.drew w63) (Addr.add a64 ((Int.toNat c7) * 1)) = some (Value.int .i64 n65) ∧
        needSome s1 fun a66 =>
        0 ≤ c7 ∧ c7 < ((5 : Nat) : Int) ∧
        ∃ n67 : Int, World.cell? (World.drew w63) (Addr.add (a66.add 5) ((Int.toNat c7) * 2)) = some (Value.int .i64 n67) ∧
        needSome s1 fun a68 =>
        0 ≤ c7 ∧ c7 < ((5 : Nat) : Int) ∧
        ∃ n69 : Int, World.cell? (World.drew w63) ((Addr.add (a68.add 5) ((Int.toNat c7) * 2)).add 1) = some (Value.int .i64 n69) ∧
        newS (World.drew w63) (.cells ⟨[(Value.int .i64 c7), (Value.int .i64 n65), (Value.int .i64 n67), (Value.int .i64 n69)]⟩ 3) fun r70 w71 =>
        ∃ (I72 : (Slc) → (Int) → World → Prop) (mu73 : (Slc) → (Int) → World → Nat), I72 (out6) ((0 : Int)) w71 ∧ (
        ∀ out74 : Slc, ∀ i75 : Int, ∀ w76 : World, I72 out74 i75 w76 → ∀ u77 u78 u79 u80 u81 u82 u83 u84 u85 : Value,
          BIf (decide (i75 < ((4 : Nat) : Int))) (
            0 ≤ i75 ∧ i75 < ((4 : Nat) : Int) ∧
            ∃ n86 : Int, World.cell? w76 (Addr.add (⟨r70, 0, none⟩ : Addr) ((Int.toNat i75) * 1)) = some (Value.int .i64 n86) ∧
            Calls Tryd.prog fn_tidewaterref04_Num ⟨[(Value.int .i64 n86)]⟩ w76 fun e87 w88 =>
            ∃ s89 : Slc, e87 = .returned (Slc.v s89) ∧
            appendS 1 5 [(Value.int .u8 (0 : Int))] w88 out74 (.slc s89) fun s90 w91 =>
            inR .i64 (i75 + (1 : Int)) ∧
            (I72 (s90) ((i75 + (1 : Int))) w91 ∧ mu73 (s90) ((i75 + (1 : Int))) w91 < mu73 out74 i75 w76)) (
            inR .i64 (c7 + (1 : Int)) ∧
            (I4 (out74) ((c7 + (1 : Int))) w76 ∧ mu5 (out74) ((c7 + (1 : Int))) w76 < mu5 out6 c7 w8)))) (
        inR .i64 (c7 + (1 : Int)) ∧
        (I4 (out6) ((c7 + (1 : Int))) w8 ∧ mu5 (out6) ((c7 + (1 : Int))) w8 < mu5 out6 c7 w8))) (
      K (Slc.v out6) w8))

theorem tidewaterref22_Seen_Bytes_eq (s1 : Option Addr) (w : World) (K : Value → World → Prop) : tidewaterref22_Seen_Bytes s1 w K = denF Tryd.prog callB Tryd.f19 (.two .none (.two .none (.two (.two .none (.one (.loop [(3, Sh.slc), (4, (Sh.int .i64))] [6, 8, 9, 10, 11, 12, 13, 14, 15, 16, 17, 18, 19, 20, 21, 22, 23, 24, 25, 26, 27, 28, 29, 30, 31, 32, 33, 34, 35, 36, 37, 38, 39, 40, 41, 42, 43, 44, 45, 46, 47, 48, 49, 50, 51, 52, 53, 54, 55] (.two .none (.two (.one (.two .none (.two (.two (.reg [3]) (.two .none (.one (.loop [(3, Sh.slc), (47, (Sh.int .i64))] [6, 48, 49, 50, 51, 52, 53, 54, 55] .none)))) .none))) .none))))) .none))) [(Value.pointer s1)] w K := by kernel_rfl
theorem tidewaterref22_Seen_Bytes_ok (s1 : Option Addr) {w : World} {R : Ending → World → Prop} (h : tidewaterref22_Seen_Bytes s1 w fun v w' => R (.returned v) w') : Calls Tryd.prog fn_tidewaterref22_Seen_Bytes ⟨[(Value.pointer s1)]⟩ w R :=
  calls_of_den callB_ok mixed Tryd.func19 (tidewaterref22_Seen_Bytes_eq s1 w _ ▸ h)

end Go.D
