/-
  WHAT IS PROVED: verification conditions of functions of this program, each with its soundness. No further conditions.
-/
import Derived.Test.YtagajpoppiklnaaDoorBase
set_option linter.unusedSimpArgs false
set_option maxRecDepth 100000
set_option linter.unusedVariables false
namespace Go.D
open Go Go.Proofs
/-- tidewater/entry.within -/
def entry_within (n1 : Int) (most2 : Int) (w : World) (K : Value → World → Prop) : Prop :=
  BIf (decide ((1 : Int) ≤ n1)) (
    K (Value.bool (decide (n1 ≤ most2))) w) (
    K (Value.bool false) w)

theorem entry_within_eq (n1 : Int) (most2 : Int) (w : World) (K : Value → World → Prop) : entry_within n1 most2 w K = denF Tryd.prog callB Tryd.f78 .none [(Value.int .i64 n1), (Value.int .i64 most2)] w K := by kernel_rfl
theorem entry_within_ok (n1 : Int) (most2 : Int) {w : World} {R : Ending → World → Prop} (h : entry_within n1 most2 w fun v w' => R (.returned v) w') : Calls Tryd.prog fn_entry_within ⟨[(Value.int .i64 n1), (Value.int .i64 most2)]⟩ w R :=
  calls_of_den callB_ok mixed Tryd.func78 (entry_within_eq n1 most2 w _ ▸ h)

/-- tidewater/entry.shard -/
def entry_shard (n1 : Int) (w : World) (K : Value → World → Prop) : Prop :=
  Calls Tryd.prog fn_entry_within ⟨[(Value.int .i64 n1), (Value.int .i64 (12 : Int))]⟩ w fun e2 w3 =>
  ∃ b4 : Bool, e2 = .returned (Value.bool b4) ∧
  K (Value.bool b4) w3

theorem entry_shard_eq (n1 : Int) (w : World) (K : Value → World → Prop) : entry_shard n1 w K = denF Tryd.prog callB Tryd.f77 .none [(Value.int .i64 n1)] w K := by kernel_rfl
theorem entry_shard_ok (n1 : Int) {w : World} {R : Ending → World → Prop} (h : entry_shard n1 w fun v w' => R (.returned v) w') : Calls Tryd.prog fn_entry_shard ⟨[(Value.int .i64 n1)]⟩ w R :=
  calls_of_den callB_ok mixed Tryd.func77 (entry_shard_eq n1 w _ ▸ h)

/-- tidewater/entry.opRight -/
def entry_opRight (o1 : Int) (o2 : List UInt8) (o3 : List UInt8) (o4 : List UInt8) (o5 : Int) (w : World) (K : Value → World → Prop) : Prop :=
  newS w (.cells ⟨[(Value.int .i64 o1), (strV o2), (strV o3), (strV o4), (Value.int .i64 o5)]⟩ 50) fun r6 w7 =>
  ∃ t8 : List UInt8, World.cell? w7 (⟨r6, 1, none⟩ : Addr) = some (strV t8) ∧
  Calls Tryd.prog fn_runes_Key ⟨[(strV t8)]⟩ w7 fun e9 w10 =>
  ∃ e11 : Value, e9 = .returned e11 ∧
  isI e11 ∧
  BIf (!isNilI e11) (
    K (Value.bool false) w10) (
    ∃ n12 : Int, World.cell? w10 (⟨r6, 0, none⟩ : Addr) = some (Value.int .i64 n12) ∧
    BIf (decide (n12 = (1 : Int))) (
      ∃ t13 : List UInt8, World.cell? w10 (⟨r6, 2, none⟩ : Addr) = some (strV t13) ∧
      K (Value.bool (decide ((((List.length t13) : Nat) : Int) ≤ (64 : Int)))) w10) (
      BIf (decide (n12 = (2 : Int))) (
        K (Value.bool true) w10) (
        BIf (decide (n12 = (3 : Int))) (
          ∃ t14 : List UInt8, World.cell? w10 (⟨r6, 2, none⟩ : Addr) = some (strV t14) ∧
          BIf (decide ((((List.length t14) : Nat) : Int) ≤ (64 : Int))) (
            ∃ t15 : List UInt8, World.cell? w10 (⟨r6, 3, none⟩ : Addr) = some (strV t15) ∧
            K (Value.bool (decide ((((List.length t15) : Nat) : Int) ≤ (64 : Int)))) w10) (
            K (Value.bool false) w10)) (
          BIf (decide (n12 = (4 : Int))) (
            ∃ n16 : Int, World.cell? w10 (⟨r6, 4, none⟩ : Addr) = some (Value.int .i64 n16) ∧
            BIf (decide ((0 : Int) ≤ n16)) (
              ∃ n17 : Int, World.cell? w10 (⟨r6, 4, none⟩ : Addr) = some (Value.int .i64 n17) ∧
              K (Value.bool (decide (n17 ≤ (4096 : Int)))) w10) (
              K (Value.bool false) w10)) (
            K (Value.bool false) w10)))))

theorem entry_opRight_eq (o1 : Int) (o2 : List UInt8) (o3 : List UInt8) (o4 : List UInt8) (o5 : Int) (w : World) (K : Value → World → Prop) : entry_opRight o1 o2 o3 o4 o5 w K = denF Tryd.prog callB Tryd.f97 .none [(Value.agg ⟨[(Value.int .i64 o1), (strV o2), (strV o3), (strV o4), (Value.int .i64 o5)]⟩)] w K := by kernel_rfl
theorem entry_opRight_ok (o1 : Int) (o2 : List UInt8) (o3 : List UInt8) (o4 : List UInt8) (o5 : Int) {w : World} {R : Ending → World → Prop} (h : entry_opRight o1 o2 o3 o4 o5 w fun v w' => R (.returned v) w') : Calls Tryd.prog fn_entry_opRight ⟨[(Value.agg ⟨[(Value.int .i64 o1), (strV o2), (strV o3), (strV o4), (Value.int .i64 o5)]⟩)]⟩ w R :=
  calls_of_den callB_ok mixed Tryd.func97 (entry_opRight_eq o1 o2 o3 o4 o5 w _ ▸ h)

/-- (tidewater/entry.writing).right$1 -/
def entry_writing_right_1 (o1 : Int) (o2 : List UInt8) (o3 : List UInt8) (o4 : List UInt8) (o5 : Int) (w : World) (K : Value → World → Prop) : Prop :=
  newS w (.cells ⟨[(Value.int .i64 o1), (strV o2), (strV o3), (strV o4), (Value.int .i64 o5)]⟩ 50) fun r6 w7 =>
  ∃ n8 : Int, ∃ t9 : List UInt8, ∃ t10 : List UInt8, ∃ t11 : List UInt8, ∃ n12 : Int, rowAt w7 (⟨r6, 0, none⟩ : Addr) 0 [(Value.int .i64 n8), (strV t9), (strV t10), (strV t11), (Value.int .i64 n12)] ∧
  Calls Tryd.prog fn_entry_opRight ⟨[(Value.agg ⟨[(Value.int .i64 n8), (strV t9), (strV t10), (strV t11), (Value.int .i64 n12)]⟩)]⟩ w7 fun e13 w14 =>
  ∃ b15 : Bool, e13 = .returned (Value.bool b15) ∧
  K (Value.bool (!b15)) w14

theorem entry_writing_right_1_eq (o1 : Int) (o2 : List UInt8) (o3 : List UInt8) (o4 : List UInt8) (o5 : Int) (w : World) (K : Value → World → Prop) : entry_writing_right_1 o1 o2 o3 o4 o5 w K = denF Tryd.prog callB Tryd.f96 .none [(Value.agg ⟨[(Value.int .i64 o1), (strV o2), (strV o3), (strV o4), (Value.int .i64 o5)]⟩)] w K := by kernel_rfl
theorem entry_writing_right_1_ok (o1 : Int) (o2 : List UInt8) (o3 : List UInt8) (o4 : List UInt8) (o5 : Int) {w : World} {R : Ending → World → Prop} (h : entry_writing_right_1 o1 o2 o3 o4 o5 w fun v w' => R (.returned v) w') : Calls Tryd.prog fn_entry_writing_right_1 ⟨[(Value.agg ⟨[(Value.int .i64 o1), (strV o2), (strV o3), (strV o4), (Value.int .i64 o5)]⟩)]⟩ w R :=
  calls_of_den callB_ok mixed Tryd.func96 (entry_writing_right_1_eq o1 o2 o3 o4 o5 w _ ▸ h)

/-- slices.IndexFunc[[]tidewater/api.Op,tidewater/api.Op] -/
def slices_IndexFunc_Op_entry_writing_right_1 (s1 : Slc) (w : World) (K : Value → World → Prop) : Prop :=
  ∃ (I2 : (Int) → World → Prop) (mu3 : (Int) → World → Nat), I2 ((0 : Int)) w ∧ (
  ∀ i4 : Int, ∀ w5 : World, I2 i4 w5 → ∀ u6 u7 u8 u9 u10 u11 u12 u13 u14 u15 u16 u17 : Value,
    BIf (decide (i4 < ((s1.l : Nat) : Int))) (
      needSome s1.p fun a18 =>
      0 ≤ i4 ∧ i4 < ((s1.l : Nat) : Int) ∧
      ∃ n19 : Int, ∃ t20 : List UInt8, ∃ t21 : List UInt8, ∃ t22 : List UInt8, ∃ n23 : Int, rowAt w5 (Addr.add a18 ((Int.toNat i4) * 5)) 0 [(Value.int .i64 n19), (strV t20), (strV t21), (strV t22), (Value.int .i64 n23)] ∧
      Calls Tryd.prog fn_entry_writing_right_1 ⟨[(Value.agg ⟨[(Value.int .i64 n19), (strV t20), (strV t21), (strV t22), (Value.int .i64 n23)]⟩)]⟩ w5 fun e24 w25 =>
      ∃ b26 : Bool, e24 = .returned (Value.bool b26) ∧
      BIf b26 (
        K (Value.int .i64 i4) w25) (
        inR .i64 (i4 + (1 : Int)) ∧
        (I2 ((i4 + (1 : Int))) w25 ∧ mu3 ((i4 + (1 : Int))) w25 < mu3 i4 w5))) (
      K (Value.int .i64 (-1 : Int)) w5))

theorem slices_IndexFunc_Op_entry_writing_right_1_eq (s1 : Slc) (w : World) (K : Value → World → Prop) : slices_IndexFunc_Op_entry_writing_right_1 s1 w K = denF Tryd.prog callB Tryd.f98 (.two .none (.two (.two .none (.one (.loop [(8, (Sh.int .i64))] [4, 5, 9, 10, 11, 12, 13, 14, 15, 16, 17, 18] .none))) .none)) [(Slc.v s1), (Value.func (.func 96) ⟨[]⟩ ⟨[]⟩)] w K := by kernel_rfl
theorem slices_IndexFunc_Op_entry_writing_right_1_ok (s1 : Slc) {w : World} {R : Ending → World → Prop} (h : slices_IndexFunc_Op_entry_writing_right_1 s1 w fun v w' => R (.returned v) w') : Calls Tryd.prog fn_slices_IndexFunc_Op ⟨[(Slc.v s1), (Value.func (.func 96) ⟨[]⟩ ⟨[]⟩)]⟩ w R :=
  calls_of_den callB_ok mixed Tryd.func98 (slices_IndexFunc_Op_entry_writing_right_1_eq s1 w _ ▸ h)

/-- slices.ContainsFunc[[]tidewater/api.Op,tidewater/api.Op] -/
def slices_ContainsFunc_Op_entry_writing_right_1 (s1 : Slc) (w : World) (K : Value → World → Prop) : Prop :=
  Calls Tryd.prog fn_slices_IndexFunc_Op ⟨[(Slc.v s1), (Value.func (.func 96) ⟨[]⟩ ⟨[]⟩)]⟩ w fun e2 w3 =>
  ∃ n4 : Int, e2 = .returned (Value.int .i64 n4) ∧
  K (Value.bool (decide ((0 : Int) ≤ n4))) w3

theorem slices_ContainsFunc_Op_entry_writing_right_1_eq (s1 : Slc) (w : World) (K : Value → World → Prop) : slices_ContainsFunc_Op_entry_writing_right_1 s1 w K = denF Tryd.prog callB Tryd.f95 .none [(Slc.v s1), (Value.func (.func 96) ⟨[]⟩ ⟨[]⟩)] w K := by kernel_rfl
theorem slices_ContainsFunc_Op_entry_writing_right_1_ok (s1 : Slc) {w : World} {R : Ending → World → Prop} (h : slices_ContainsFunc_Op_entry_writing_right_1 s1 w fun v w' => R (.returned v) w') : Calls Tryd.prog fn_slices_ContainsFunc_Op ⟨[(Slc.v s1), (Value.func (.func 96) ⟨[]⟩ ⟨[]⟩)]⟩ w R :=
  calls_of_den callB_ok mixed Tryd.func95 (slices_ContainsFunc_Op_entry_writing_right_1_eq s1 w _ ▸ h)

/-- (tidewater/entry.writing).right -/
def entry_writing_right (w1 : Int) (w2 : Int) (w3 : Int) (w4 : Slc) (w : World) (K : Value → World → Prop) : Prop :=
  newS w (.cells ⟨[(Value.int .i64 w1), (Value.int .i64 w2), (Value.int .i64 w3), (Slc.v w4)]⟩ 108) fun r5 w6 =>
  ∃ s7 : Slc, World.cell? w6 (⟨r5, 3, none⟩ : Addr) = some (Slc.v s7) ∧
  Calls Tryd.prog fn_slices_ContainsFunc_Op ⟨[(Slc.v s7), (Value.func (.func 96) ⟨[]⟩ ⟨[]⟩)]⟩ w6 fun e8 w9 =>
  ∃ b10 : Bool, e8 = .returned (Value.bool b10) ∧
  ∃ n11 : Int, World.cell? w9 (⟨r5, 0, none⟩ : Addr) = some (Value.int .i64 n11) ∧
  Calls Tryd.prog fn_entry_shard ⟨[(Value.int .i64 n11)]⟩ w9 fun e12 w13 =>
  ∃ b14 : Bool, e12 = .returned (Value.bool b14) ∧
  BIf b14 (
    ∃ n15 : Int, World.cell? w13 (⟨r5, 1, none⟩ : Addr) = some (Value.int .i64 n15) ∧
    Calls Tryd.prog fn_entry_within ⟨[(Value.int .i64 n15), (Value.int .i64 (4 : Int))]⟩ w13 fun e16 w17 =>
    ∃ b18 : Bool, e16 = .returned (Value.bool b18) ∧
    BIf b18 (
      ∃ n19 : Int, World.cell? w17 (⟨r5, 2, none⟩ : Addr) = some (Value.int .i64 n19) ∧
      Calls Tryd.prog fn_entry_within ⟨[(Value.int .i64 n19), (Value.int .i64 (1073741824 : Int))]⟩ w17 fun e20 w21 =>
      ∃ b22 : Bool, e20 = .returned (Value.bool b22) ∧
      BIf b22 (
        ∃ s23 : Slc, World.cell? w21 (⟨r5, 3, none⟩ : Addr) = some (Slc.v s23) ∧
        Calls Tryd.prog fn_entry_within ⟨[(Value.int .i64 ((s23.l : Nat) : Int)), (Value.int .i64 (8 : Int))]⟩ w21 fun e24 w25 =>
        ∃ b26 : Bool, e24 = .returned (Value.bool b26) ∧
        BIf b26 (
          K (Value.bool (!b10)) w25) (
          K (Value.bool false) w25)) (
        K (Value.bool false) w21)) (
      K (Value.bool false) w17)) (
    K (Value.bool false) w13)

theorem entry_writing_right_eq (w1 : Int) (w2 : Int) (w3 : Int) (w4 : Slc) (w : World) (K : Value → World → Prop) : entry_writing_right w1 w2 w3 w4 w K = denF Tryd.prog callB Tryd.f92 .none [(Value.agg ⟨[(Value.int .i64 w1), (Value.int .i64 w2), (Value.int .i64 w3), (Slc.v w4)]⟩)] w K := by kernel_rfl
theorem entry_writing_right_ok (w1 : Int) (w2 : Int) (w3 : Int) (w4 : Slc) {w : World} {R : Ending → World → Prop} (h : entry_writing_right w1 w2 w3 w4 w fun v w' => R (.returned v) w') : Calls Tryd.prog fn_entry_writing_right ⟨[(Value.agg ⟨[(Value.int .i64 w1), (Value.int .i64 w2), (Value.int .i64 w3), (Slc.v w4)]⟩)]⟩ w R :=
  calls_of_den callB_ok mixed Tryd.func92 (entry_writing_right_eq w1 w2 w3 w4 w _ ▸ h)

/-- (tidewater/entry.writing).streams -/
def entry_writing_streams (w1 : Int) (w2 : Int) (w3 : Int) (w4 : Slc) (w : World) (K : Value → World → Prop) : Prop :=
  newS w (.cells ⟨[(Value.int .i64 w1), (Value.int .i64 w2), (Value.int .i64 w3), (Slc.v w4)]⟩ 108) fun r5 w6 =>
  ∃ n7 : Int, World.cell? w6 (⟨r5, 0, none⟩ : Addr) = some (Value.int .i64 n7) ∧
  newS w6 (.cells ⟨[(Value.int .i64 n7)]⟩ 3) fun r8 w9 =>
  K (Slc.v (⟨(some (⟨r8, 0, none⟩ : Addr)), 1, 1⟩ : Slc)) w9

theorem entry_writing_streams_eq (w1 : Int) (w2 : Int) (w3 : Int) (w4 : Slc) (w : World) (K : Value → World → Prop) : entry_writing_streams w1 w2 w3 w4 w K = denF Tryd.prog callB Tryd.f93 .none [(Value.agg ⟨[(Value.int .i64 w1), (Value.int .i64 w2), (Value.int .i64 w3), (Slc.v w4)]⟩)] w K := by kernel_rfl
theorem entry_writing_streams_ok (w1 : Int) (w2 : Int) (w3 : Int) (w4 : Slc) {w : World} {R : Ending → World → Prop} (h : entry_writing_streams w1 w2 w3 w4 w fun v w' => R (.returned v) w') : Calls Tryd.prog fn_entry_writing_streams ⟨[(Value.agg ⟨[(Value.int .i64 w1), (Value.int .i64 w2), (Value.int .i64 w3), (Slc.v w4)]⟩)]⟩ w R :=
  calls_of_den callB_ok mixed Tryd.func93 (entry_writing_streams_eq w1 w2 w3 w4 w _ ▸ h)

/-- (tidewater/entry.writing).write -/
def entry_writing_write (w1 : Int) (w2 : Int) (w3 : Int) (w4 : Slc) (o5 : Option Addr) (w : World) (K : Value → World → Prop) : Prop :=
  newS w (.cells ⟨[(Value.int .i64 w1), (Value.int .i64 w2), (Value.int .i64 w3), (Slc.v w4)]⟩ 108) fun r6 w7 =>
  ∃ n8 : Int, World.cell? w7 (⟨r6, 0, none⟩ : Addr) = some (Value.int .i64 n8) ∧
  ∃ n9 : Int, World.cell? w7 (⟨r6, 1, none⟩ : Addr) = some (Value.int .i64 n9) ∧
  ∃ n10 : Int, World.cell? w7 (⟨r6, 2, none⟩ : Addr) = some (Value.int .i64 n10) ∧
  ∃ s11 : Slc, World.cell? w7 (⟨r6, 3, none⟩ : Addr) = some (Slc.v s11) ∧
  newS w7 (.cells ⟨[(Value.int .i64 (1 : Int)), (Value.int .i64 n8), (Value.int .i64 n9), (Value.int .i64 n10), (Value.int .i64 ((s11.l : Nat) : Int))]⟩ 3) fun r12 w13 =>
  Calls Tryd.prog fn_entry_nums ⟨[(Value.pointer o5), (Slc.v (⟨(some (⟨r12, 0, none⟩ : Addr)), 5, 5⟩ : Slc))]⟩ w13 fun e14 w15 =>
  e14 = .returned (Value.tuple #[]) ∧
  ∃ s16 : Slc, World.cell? w15 (⟨r6, 3, none⟩ : Addr) = some (Slc.v s16) ∧
  ∃ (I17 : (Int) → World → Prop) (mu18 : (Int) → World → Nat), I17 ((0 : Int)) w15 ∧ (
  ∀ i19 : Int, ∀ w20 : World, I17 i19 w20 → ∀ u21 u22 u23 u24 u25 u26 u27 u28 u29 u30 u31 u32 u33 u34 u35 u36 u37 u38 u39 u40 u41 u42 u43 u44 u45 u46 u47 u48 u49 u50 u51 u52 u53 u54 u55 u56 u57 : Value,
    BIf (decide (i19 < ((s16.l : Nat) : Int))) (
      needSome s16.p fun a58 =>
      0 ≤ i19 ∧ i19 < ((s16.l : Nat) : Int) ∧
      ∃ n59 : Int, ∃ t60 : List UInt8, ∃ t61 : List UInt8, ∃ t62 : List UInt8, ∃ n63 : Int, rowAt w20 (Addr.add a58 ((Int.toNat i19) * 5)) 0 [(Value.int .i64 n59), (strV t60), (strV t61), (strV t62), (Value.int .i64 n63)] ∧
      newS w20 (.cells ⟨[(Value.int .i64 (0 : Int)), (strV ([] : List UInt8)), (strV ([] : List UInt8)), (strV ([] : List UInt8)), (Value.int .i64 (0 : Int))]⟩ 50) fun r64 w65 =>
      canW w65 (⟨r64, 0, none⟩ : Addr) 5 ∧ ∀ w66 : World, w66 = setCells w65 (⟨r64, 0, none⟩ : Addr) 0 [(Value.int .i64 n59), (strV t60), (strV t61), (strV t62), (Value.int .i64 n63)] →
      ∃ n67 : Int, World.cell? w66 (⟨r64, 0, none⟩ : Addr) = some (Value.int .i64 n67) ∧
      Calls Tryd.prog fn_pack_Out_Num ⟨[(Value.pointer o5), (Value.int .i64 n67)]⟩ w66 fun e68 w69 =>
      e68 = .returned (Value.tuple #[]) ∧
      ∃ t70 : List UInt8, World.cell? w69 (⟨r64, 1, none⟩ : Addr) = some (strV t70) ∧
      Calls Tryd.prog fn_pack_Out_Text ⟨[(Value.pointer o5), (strV t70)]⟩ w69 fun e71 w72 =>
      e71 = .returned (Value.tuple #[]) ∧
      ∃ n73 : Int, World.cell? w72 (⟨r64, 0, none⟩ : Addr) = some (Value.int .i64 n73) ∧
      BIf (decide (n73 = (1 : Int))) (
        ∃ t74 : List UInt8, World.cell? w72 (⟨r64, 2, none⟩ : Addr) = some (strV t74) ∧
        Calls Tryd.prog fn_pack_Out_Text ⟨[(Value.pointer o5), (strV t74)]⟩ w72 fun e75 w76 =>
        e75 = .returned (Value.tuple #[]) ∧
        inR .i64 (i19 + (1 : Int)) ∧
        (I17 ((i19 + (1 : Int))) w76 ∧ mu18 ((i19 + (1 : Int))) w76 < mu18 i19 w20)) (
        BIf (decide (n73 = (3 : Int))) (
          ∃ t77 : List UInt8, World.cell? w72 (⟨r64, 3, none⟩ : Addr) = some (strV t77) ∧
          Calls Tryd.prog fn_pack_Out_Text ⟨[(Value.pointer o5), (strV t77)]⟩ w72 fun e78 w79 =>
          e78 = .returned (Value.tuple #[]) ∧
          ∃ t80 : List UInt8, World.cell? w79 (⟨r64, 2, none⟩ : Addr) = some (strV t80) ∧
          Calls Tryd.prog fn_pack_Out_Text ⟨[(Value.pointer o5), (strV t80)]⟩ w79 fun e81 w82 =>
          e81 = .returned (Value.tuple #[]) ∧
          inR .i64 (i19 + (1 : Int)) ∧
          (I17 ((i19 + (1 : Int))) w82 ∧ mu18 ((i19 + (1 : Int))) w82 < mu18 i19 w20)) (
          BIf (decide (n73 = (4 : Int))) (
            ∃ n83 : Int, World.cell? w72 (⟨r64, 4, none⟩ : Addr) = some (Value.int .i64 n83) ∧
            Calls Tryd.prog fn_pack_Out_Num ⟨[(Value.pointer o5), (Value.int .i64 n83)]⟩ w72 fun e84 w85 =>
            e84 = .returned (Value.tuple #[]) ∧
            inR .i64 (i19 + (1 : Int)) ∧
            (I17 ((i19 + (1 : Int))) w85 ∧ mu18 ((i19 + (1 : Int))) w85 < mu18 i19 w20)) (
            inR .i64 (i19 + (1 : Int)) ∧
            (I17 ((i19 + (1 : Int))) w72 ∧ mu18 ((i19 + (1 : Int))) w72 < mu18 i19 w20))))) (
      K (Value.tuple #[]) w20))

theorem entry_writing_write_eq (w1 : Int) (w2 : Int) (w3 : Int) (w4 : Slc) (o5 : Option Addr) (w : World) (K : Value → World → Prop) : entry_writing_write w1 w2 w3 w4 o5 w K = denF Tryd.prog callB Tryd.f94 (.two .none (.two .none (.two .none (.one (.loop [(21, (Sh.int .i64))] [5, 22, 23, 24, 25, 26, 27, 28, 29, 30, 31, 32, 33, 34, 35, 36, 37, 38, 39, 40, 41, 42, 43, 44, 45, 46, 47, 48, 49, 50, 51, 52, 53, 54, 55, 56, 57] .none))))) [(Value.agg ⟨[(Value.int .i64 w1), (Value.int .i64 w2), (Value.int .i64 w3), (Slc.v w4)]⟩), (Value.pointer o5)] w K := by kernel_rfl
theorem entry_writing_write_ok (w1 : Int) (w2 : Int) (w3 : Int) (w4 : Slc) (o5 : Option Addr) {w : World} {R : Ending → World → Prop} (h : entry_writing_write w1 w2 w3 w4 o5 w fun v w' => R (.returned v) w') : Calls Tryd.prog fn_entry_writing_write ⟨[(Value.agg ⟨[(Value.int .i64 w1), (Value.int .i64 w2), (Value.int .i64 w3), (Slc.v w4)]⟩), (Value.pointer o5)]⟩ w R :=
  calls_of_den callB_ok mixed Tryd.func94 (entry_writing_write_eq w1 w2 w3 w4 o5 w _ ▸ h)

/-- (tidewater/entry.moving).right -/
def entry_moving_right (m1 : Int) (m2 : Int) (w : World) (K : Value → World → Prop) : Prop :=
  newS w (.cells ⟨[(Value.int .i64 m1), (Value.int .i64 m2)]⟩ 88) fun r3 w4 =>
  ∃ n5 : Int, World.cell? w4 (⟨r3, 0, none⟩ : Addr) = some (Value.int .i64 n5) ∧
  Calls Tryd.prog fn_entry_shard ⟨[(Value.int .i64 n5)]⟩ w4 fun e6 w7 =>
  ∃ b8 : Bool, e6 = .returned (Value.bool b8) ∧
  BIf b8 (
    ∃ n9 : Int, World.cell? w7 (⟨r3, 1, none⟩ : Addr) = some (Value.int .i64 n9) ∧
    Calls Tryd.prog fn_entry_within ⟨[(Value.int .i64 n9), (Value.int .i64 (4 : Int))]⟩ w7 fun e10 w11 =>
    ∃ b12 : Bool, e10 = .returned (Value.bool b12) ∧
    K (Value.bool b12) w11) (
    K (Value.bool false) w7)

theorem entry_moving_right_eq (m1 : Int) (m2 : Int) (w : World) (K : Value → World → Prop) : entry_moving_right m1 m2 w K = denF Tryd.prog callB Tryd.f74 .none [(Value.agg ⟨[(Value.int .i64 m1), (Value.int .i64 m2)]⟩)] w K := by kernel_rfl
theorem entry_moving_right_ok (m1 : Int) (m2 : Int) {w : World} {R : Ending → World → Prop} (h : entry_moving_right m1 m2 w fun v w' => R (.returned v) w') : Calls Tryd.prog fn_entry_moving_right ⟨[(Value.agg ⟨[(Value.int .i64 m1), (Value.int .i64 m2)]⟩)]⟩ w R :=
  calls_of_den callB_ok mixed Tryd.func74 (entry_moving_right_eq m1 m2 w _ ▸ h)

/-- (tidewater/entry.moving).streams -/
def entry_moving_streams (m1 : Int) (m2 : Int) (w : World) (K : Value → World → Prop) : Prop :=
  newS w (.cells ⟨[(Value.int .i64 m1), (Value.int .i64 m2)]⟩ 88) fun r3 w4 =>
  ∃ n5 : Int, World.cell? w4 (⟨r3, 0, none⟩ : Addr) = some (Value.int .i64 n5) ∧
  newS w4 (.cells ⟨[(Value.int .i64 (0 : Int)), (Value.int .i64 n5)]⟩ 3) fun r6 w7 =>
  K (Slc.v (⟨(some (⟨r6, 0, none⟩ : Addr)), 2, 2⟩ : Slc)) w7

theorem entry_moving_streams_eq (m1 : Int) (m2 : Int) (w : World) (K : Value → World → Prop) : entry_moving_streams m1 m2 w K = denF Tryd.prog callB Tryd.f75 .none [(Value.agg ⟨[(Value.int .i64 m1), (Value.int .i64 m2)]⟩)] w K := by kernel_rfl
theorem entry_moving_streams_ok (m1 : Int) (m2 : Int) {w : World} {R : Ending → World → Prop} (h : entry_moving_streams m1 m2 w fun v w' => R (.returned v) w') : Calls Tryd.prog fn_entry_moving_streams ⟨[(Value.agg ⟨[(Value.int .i64 m1), (Value.int .i64 m2)]⟩)]⟩ w R :=
  calls_of_den callB_ok mixed Tryd.func75 (entry_moving_streams_eq m1 m2 w _ ▸ h)

/-- (tidewater/entry.moving).write -/
def entry_moving_write (m1 : Int) (m2 : Int) (o3 : Option Addr) (w : World) (K : Value → World → Prop) : Prop :=
  newS w (.cells ⟨[(Value.int .i64 m1), (Value.int .i64 m2)]⟩ 88) fun r4 w5 =>
  ∃ n6 : Int, World.cell? w5 (⟨r4, 0, none⟩ : Addr) = some (Value.int .i64 n6) ∧
  ∃ n7 : Int, World.cell? w5 (⟨r4, 1, none⟩ : Addr) = some (Value.int .i64 n7) ∧
  newS w5 (.cells ⟨[(Value.int .i64 (2 : Int)), (Value.int .i64 n6), (Value.int .i64 n7)]⟩ 3) fun r8 w9 =>
  Calls Tryd.prog fn_entry_nums ⟨[(Value.pointer o3), (Slc.v (⟨(some (⟨r8, 0, none⟩ : Addr)), 3, 3⟩ : Slc))]⟩ w9 fun e10 w11 =>
  e10 = .returned (Value.tuple #[]) ∧
  K (Value.tuple #[]) w11

theorem entry_moving_write_eq (m1 : Int) (m2 : Int) (o3 : Option Addr) (w : World) (K : Value → World → Prop) : entry_moving_write m1 m2 o3 w K = denF Tryd.prog callB Tryd.f76 .none [(Value.agg ⟨[(Value.int .i64 m1), (Value.int .i64 m2)]⟩), (Value.pointer o3)] w K := by kernel_rfl
theorem entry_moving_write_ok (m1 : Int) (m2 : Int) (o3 : Option Addr) {w : World} {R : Ending → World → Prop} (h : entry_moving_write m1 m2 o3 w fun v w' => R (.returned v) w') : Calls Tryd.prog fn_entry_moving_write ⟨[(Value.agg ⟨[(Value.int .i64 m1), (Value.int .i64 m2)]⟩), (Value.pointer o3)]⟩ w R :=
  calls_of_den callB_ok mixed Tryd.func76 (entry_moving_write_eq m1 m2 o3 w _ ▸ h)

/-- (tidewater/entry.splitting).right -/
def entry_splitting_right (s1 : Int) (s2 : Int) (s3 : Int) (s4 : List UInt8) (w : World) (K : Value → World → Prop) : Prop :=
  newS w (.cells ⟨[(Value.int .i64 s1), (Value.int .i64 s2), (Value.int .i64 s3), (strV s4)]⟩ 90) fun r5 w6 =>
  ∃ n7 : Int, World.cell? w6 (⟨r5, 0, none⟩ : Addr) = some (Value.int .i64 n7) ∧
  Calls Tryd.prog fn_entry_shard ⟨[(Value.int .i64 n7)]⟩ w6 fun e8 w9 =>
  ∃ b10 : Bool, e8 = .returned (Value.bool b10) ∧
  BIf b10 (
    ∃ n11 : Int, World.cell? w9 (⟨r5, 1, none⟩ : Addr) = some (Value.int .i64 n11) ∧
    Calls Tryd.prog fn_entry_shard ⟨[(Value.int .i64 n11)]⟩ w9 fun e12 w13 =>
    ∃ b14 : Bool, e12 = .returned (Value.bool b14) ∧
    BIf b14 (
      ∃ n15 : Int, World.cell? w13 (⟨r5, 0, none⟩ : Addr) = some (Value.int .i64 n15) ∧
      ∃ n16 : Int, World.cell? w13 (⟨r5, 1, none⟩ : Addr) = some (Value.int .i64 n16) ∧
      BIf (!decide (n15 = n16)) (
        ∃ n17 : Int, World.cell? w13 (⟨r5, 2, none⟩ : Addr) = some (Value.int .i64 n17) ∧
        Calls Tryd.prog fn_entry_within ⟨[(Value.int .i64 n17), (Value.int .i64 (4 : Int))]⟩ w13 fun e18 w19 =>
        ∃ b20 : Bool, e18 = .returned (Value.bool b20) ∧
        BIf b20 (
          ∃ t21 : List UInt8, World.cell? w19 (⟨r5, 3, none⟩ : Addr) = some (strV t21) ∧
          Calls Tryd.prog fn_runes_Key ⟨[(strV t21)]⟩ w19 fun e22 w23 =>
          ∃ e24 : Value, e22 = .returned e24 ∧
          isI e24 ∧
          K (Value.bool (isNilI e24)) w23) (
          K (Value.bool false) w19)) (
        K (Value.bool false) w13)) (
      K (Value.bool false) w13)) (
    K (Value.bool false) w9)

theorem entry_splitting_right_eq (s1 : Int) (s2 : Int) (s3 : Int) (s4 : List UInt8) (w : World) (K : Value → World → Prop) : entry_splitting_right s1 s2 s3 s4 w K = denF Tryd.prog callB Tryd.f80 .none [(Value.agg ⟨[(Value.int .i64 s1), (Value.int .i64 s2), (Value.int .i64 s3), (strV s4)]⟩)] w K := by kernel_rfl
theorem entry_splitting_right_ok (s1 : Int) (s2 : Int) (s3 : Int) (s4 : List UInt8) {w : World} {R : Ending → World → Prop} (h : entry_splitting_right s1 s2 s3 s4 w fun v w' => R (.returned v) w') : Calls Tryd.prog fn_entry_splitting_right ⟨[(Value.agg ⟨[(Value.int .i64 s1), (Value.int .i64 s2), (Value.int .i64 s3), (strV s4)]⟩)]⟩ w R :=
  calls_of_den callB_ok mixed Tryd.func80 (entry_splitting_right_eq s1 s2 s3 s4 w _ ▸ h)

/-- (tidewater/entry.splitting).streams -/
def entry_splitting_streams (s1 : Int) (s2 : Int) (s3 : Int) (s4 : List UInt8) (w : World) (K : Value → World → Prop) : Prop :=
  newS w (.cells ⟨[(Value.int .i64 s1), (Value.int .i64 s2), (Value.int .i64 s3), (strV s4)]⟩ 90) fun r5 w6 =>
  ∃ n7 : Int, World.cell? w6 (⟨r5, 0, none⟩ : Addr) = some (Value.int .i64 n7) ∧
  ∃ n8 : Int, World.cell? w6 (⟨r5, 1, none⟩ : Addr) = some (Value.int .i64 n8) ∧
  ∃ n9 : Int, World.cell? w6 (⟨r5, 0, none⟩ : Addr) = some (Value.int .i64 n9) ∧
  ∃ n10 : Int, World.cell? w6 (⟨r5, 1, none⟩ : Addr) = some (Value.int .i64 n10) ∧
  newS w6 (.cells ⟨[(Value.int .i64 (0 : Int)), (Value.int .i64 (if n8 < n7 then n8 else n7)), (Value.int .i64 (if n10 > n9 then n10 else n9))]⟩ 3) fun r11 w12 =>
  K (Slc.v (⟨(some (⟨r11, 0, none⟩ : Addr)), 3, 3⟩ : Slc)) w12

theorem entry_splitting_streams_eq (s1 : Int) (s2 : Int) (s3 : Int) (s4 : List UInt8) (w : World) (K : Value → World → Prop) : entry_splitting_streams s1 s2 s3 s4 w K = denF Tryd.prog callB Tryd.f81 .none [(Value.agg ⟨[(Value.int .i64 s1), (Value.int .i64 s2), (Value.int .i64 s3), (strV s4)]⟩)] w K := by kernel_rfl
theorem entry_splitting_streams_ok (s1 : Int) (s2 : Int) (s3 : Int) (s4 : List UInt8) {w : World} {R : Ending → World → Prop} (h : entry_splitting_streams s1 s2 s3 s4 w fun v w' => R (.returned v) w') : Calls Tryd.prog fn_entry_splitting_streams ⟨[(Value.agg ⟨[(Value.int .i64 s1), (Value.int .i64 s2), (Value.int .i64 s3), (strV s4)]⟩)]⟩ w R :=
  calls_of_den callB_ok mixed Tryd.func81 (entry_splitting_streams_eq s1 s2 s3 s4 w _ ▸ h)

/-- (tidewater/entry.splitting).write -/
def entry_splitting_write (s1 : Int) (s2 : Int) (s3 : Int) (s4 : List UInt8) (o5 : Option Addr) (w : World) (K : Value → World → Prop) : Prop :=
  newS w (.cells ⟨[(Value.int .i64 s1), (Value.int .i64 s2), (Value.int .i64 s3), (strV s4)]⟩ 90) fun r6 w7 =>
  ∃ n8 : Int, World.cell? w7 (⟨r6, 0, none⟩ : Addr) = some (Value.int .i64 n8) ∧
  ∃ n9 : Int, World.cell? w7 (⟨r6, 1, none⟩ : Addr) = some (Value.int .i64 n9) ∧
  ∃ n10 : Int, World.cell? w7 (⟨r6, 2, none⟩ : Addr) = some (Value.int .i64 n10) ∧
  newS w7 (.cells ⟨[(Value.int .i64 (3 : Int)), (Value.int .i64 n8), (Value.int .i64 n9), (Value.int .i64 n10)]⟩ 3) fun r11 w12 =>
  Calls Tryd.prog fn_entry_nums ⟨[(Value.pointer o5), (Slc.v (⟨(some (⟨r11, 0, none⟩ : Addr)), 4, 4⟩ : Slc))]⟩ w12 fun e13 w14 =>
  e13 = .returned (Value.tuple #[]) ∧
  ∃ t15 : List UInt8, World.cell? w14 (⟨r6, 3, none⟩ : Addr) = some (strV t15) ∧
  Calls Tryd.prog fn_pack_Out_Text ⟨[(Value.pointer o5), (strV t15)]⟩ w14 fun e16 w17 =>
  e16 = .returned (Value.tuple #[]) ∧
  K (Value.tuple #[]) w17

theorem entry_splitting_write_eq (s1 : Int) (s2 : Int) (s3 : Int) (s4 : List UInt8) (o5 : Option Addr) (w : World) (K : Value → World → Prop) : entry_splitting_write s1 s2 s3 s4 o5 w K = denF Tryd.prog callB Tryd.f82 .none [(Value.agg ⟨[(Value.int .i64 s1), (Value.int .i64 s2), (Value.int .i64 s3), (strV s4)]⟩), (Value.pointer o5)] w K := by kernel_rfl
theorem entry_splitting_write_ok (s1 : Int) (s2 : Int) (s3 : Int) (s4 : List UInt8) (o5 : Option Addr) {w : World} {R : Ending → World → Prop} (h : entry_splitting_write s1 s2 s3 s4 o5 w fun v w' => R (.returned v) w') : Calls Tryd.prog fn_entry_splitting_write ⟨[(Value.agg ⟨[(Value.int .i64 s1), (Value.int .i64 s2), (Value.int .i64 s3), (strV s4)]⟩), (Value.pointer o5)]⟩ w R :=
  calls_of_den callB_ok mixed Tryd.func82 (entry_splitting_write_eq s1 s2 s3 s4 o5 w _ ▸ h)

/-- (tidewater/entry.merging).right -/
def entry_merging_right (m1 : Int) (m2 : Int) (w : World) (K : Value → World → Prop) : Prop :=
  newS w (.cells ⟨[(Value.int .i64 m1), (Value.int .i64 m2)]⟩ 92) fun r3 w4 =>
  ∃ n5 : Int, World.cell? w4 (⟨r3, 0, none⟩ : Addr) = some (Value.int .i64 n5) ∧
  Calls Tryd.prog fn_entry_shard ⟨[(Value.int .i64 n5)]⟩ w4 fun e6 w7 =>
  ∃ b8 : Bool, e6 = .returned (Value.bool b8) ∧
  BIf b8 (
    ∃ n9 : Int, World.cell? w7 (⟨r3, 1, none⟩ : Addr) = some (Value.int .i64 n9) ∧
    Calls Tryd.prog fn_entry_shard ⟨[(Value.int .i64 n9)]⟩ w7 fun e10 w11 =>
    ∃ b12 : Bool, e10 = .returned (Value.bool b12) ∧
    BIf b12 (
      ∃ n13 : Int, World.cell? w11 (⟨r3, 0, none⟩ : Addr) = some (Value.int .i64 n13) ∧
      ∃ n14 : Int, World.cell? w11 (⟨r3, 1, none⟩ : Addr) = some (Value.int .i64 n14) ∧
      K (Value.bool (!decide (n13 = n14))) w11) (
      K (Value.bool false) w11)) (
    K (Value.bool false) w7)

theorem entry_merging_right_eq (m1 : Int) (m2 : Int) (w : World) (K : Value → World → Prop) : entry_merging_right m1 m2 w K = denF Tryd.prog callB Tryd.f86 .none [(Value.agg ⟨[(Value.int .i64 m1), (Value.int .i64 m2)]⟩)] w K := by kernel_rfl
theorem entry_merging_right_ok (m1 : Int) (m2 : Int) {w : World} {R : Ending → World → Prop} (h : entry_merging_right m1 m2 w fun v w' => R (.returned v) w') : Calls Tryd.prog fn_entry_merging_right ⟨[(Value.agg ⟨[(Value.int .i64 m1), (Value.int .i64 m2)]⟩)]⟩ w R :=
  calls_of_den callB_ok mixed Tryd.func86 (entry_merging_right_eq m1 m2 w _ ▸ h)

/-- (tidewater/entry.merging).streams -/
def entry_merging_streams (m1 : Int) (m2 : Int) (w : World) (K : Value → World → Prop) : Prop :=
  newS w (.cells ⟨[(Value.int .i64 m1), (Value.int .i64 m2)]⟩ 92) fun r3 w4 =>
  ∃ n5 : Int, World.cell? w4 (⟨r3, 0, none⟩ : Addr) = some (Value.int .i64 n5) ∧
  ∃ n6 : Int, World.cell? w4 (⟨r3, 1, none⟩ : Addr) = some (Value.int .i64 n6) ∧
  ∃ n7 : Int, World.cell? w4 (⟨r3, 0, none⟩ : Addr) = some (Value.int .i64 n7) ∧
  ∃ n8 : Int, World.cell? w4 (⟨r3, 1, none⟩ : Addr) = some (Value.int .i64 n8) ∧
  newS w4 (.cells ⟨[(Value.int .i64 (0 : Int)), (Value.int .i64 (if n6 < n5 then n6 else n5)), (Value.int .i64 (if n8 > n7 then n8 else n7))]⟩ 3) fun r9 w10 =>
  K (Slc.v (⟨(some (⟨r9, 0, none⟩ : Addr)), 3, 3⟩ : Slc)) w10

theorem entry_merging_streams_eq (m1 : Int) (m2 : Int) (w : World) (K : Value → World → Prop) : entry_merging_streams m1 m2 w K = denF Tryd.prog callB Tryd.f87 .none [(Value.agg ⟨[(Value.int .i64 m1), (Value.int .i64 m2)]⟩)] w K := by kernel_rfl
theorem entry_merging_streams_ok (m1 : Int) (m2 : Int) {w : World} {R : Ending → World → Prop} (h : entry_merging_streams m1 m2 w fun v w' => R (.returned v) w') : Calls Tryd.prog fn_entry_merging_streams ⟨[(Value.agg ⟨[(Value.int .i64 m1), (Value.int .i64 m2)]⟩)]⟩ w R :=
  calls_of_den callB_ok mixed Tryd.func87 (entry_merging_streams_eq m1 m2 w _ ▸ h)

/-- (tidewater/entry.merging).write -/
def entry_merging_write (m1 : Int) (m2 : Int) (o3 : Option Addr) (w : World) (K : Value → World → Prop) : Prop :=
  newS w (.cells ⟨[(Value.int .i64 m1), (Value.int .i64 m2)]⟩ 92) fun r4 w5 =>
  ∃ n6 : Int, World.cell? w5 (⟨r4, 0, none⟩ : Addr) = some (Value.int .i64 n6) ∧
  ∃ n7 : Int, World.cell? w5 (⟨r4, 1, none⟩ : Addr) = some (Value.int .i64 n7) ∧
  newS w5 (.cells ⟨[(Value.int .i64 (4 : Int)), (Value.int .i64 n6), (Value.int .i64 n7)]⟩ 3) fun r8 w9 =>
  Calls Tryd.prog fn_entry_nums ⟨[(Value.pointer o3), (Slc.v (⟨(some (⟨r8, 0, none⟩ : Addr)), 3, 3⟩ : Slc))]⟩ w9 fun e10 w11 =>
  e10 = .returned (Value.tuple #[]) ∧
  K (Value.tuple #[]) w11

theorem entry_merging_write_eq (m1 : Int) (m2 : Int) (o3 : Option Addr) (w : World) (K : Value → World → Prop) : entry_merging_write m1 m2 o3 w K = denF Tryd.prog callB Tryd.f88 .none [(Value.agg ⟨[(Value.int .i64 m1), (Value.int .i64 m2)]⟩), (Value.pointer o3)] w K := by kernel_rfl
theorem entry_merging_write_ok (m1 : Int) (m2 : Int) (o3 : Option Addr) {w : World} {R : Ending → World → Prop} (h : entry_merging_write m1 m2 o3 w fun v w' => R (.returned v) w') : Calls Tryd.prog fn_entry_merging_write ⟨[(Value.agg ⟨[(Value.int .i64 m1), (Value.int .i64 m2)]⟩), (Value.pointer o3)]⟩ w R :=
  calls_of_den callB_ok mixed Tryd.func88 (entry_merging_write_eq m1 m2 o3 w _ ▸ h)

/-- (tidewater/entry.checking).right -/
def entry_checking_right (c1 : Int) (c2 : Int) (c3 : Int) (c4 : Int) (c5 : Slc) (w : World) (K : Value → World → Prop) : Prop :=
  newS w (.cells ⟨[(Value.int .i64 c1), (Value.int .i64 c2), (Value.int .i64 c3), (Value.int .i64 c4), (Slc.v c5)]⟩ 94) fun r6 w7 =>
  ∃ n8 : Int, World.cell? w7 (⟨r6, 0, none⟩ : Addr) = some (Value.int .i64 n8) ∧
  BIf (decide (n8 = (0 : Int))) (
    ∃ n9 : Int, World.cell? w7 (⟨r6, 1, none⟩ : Addr) = some (Value.int .i64 n9) ∧
    BIf (decide ((0 : Int) ≤ n9)) (
      ∃ n10 : Int, World.cell? w7 (⟨r6, 1, none⟩ : Addr) = some (Value.int .i64 n10) ∧
      BIf (decide (n10 ≤ (4096 : Int))) (
        ∃ n11 : Int, World.cell? w7 (⟨r6, 2, none⟩ : Addr) = some (Value.int .i64 n11) ∧
        Calls Tryd.prog fn_entry_within ⟨[(Value.int .i64 n11), (Value.int .i64 (64 : Int))]⟩ w7 fun e12 w13 =>
        ∃ b14 : Bool, e12 = .returned (Value.bool b14) ∧
        BIf b14 (
          ∃ n15 : Int, World.cell? w13 (⟨r6, 3, none⟩ : Addr) = some (Value.int .i64 n15) ∧
          BIf (decide ((0 : Int) ≤ n15)) (
            ∃ n16 : Int, World.cell? w13 (⟨r6, 3, none⟩ : Addr) = some (Value.int .i64 n16) ∧
            ∃ n17 : Int, World.cell? w13 (⟨r6, 2, none⟩ : Addr) = some (Value.int .i64 n17) ∧
            BIf (decide (n16 < n17)) (
              ∃ s18 : Slc, World.cell? w13 (⟨r6, 4, none⟩ : Addr) = some (Slc.v s18) ∧
              K (Value.bool (decide (((s18.l : Nat) : Int) ≤ (256 : Int)))) w13) (
              K (Value.bool false) w13)) (
            K (Value.bool false) w13)) (
          K (Value.bool false) w13)) (
        K (Value.bool false) w7)) (
      K (Value.bool false) w7)) (
    ∃ n19 : Int, World.cell? w7 (⟨r6, 0, none⟩ : Addr) = some (Value.int .i64 n19) ∧
    Calls Tryd.prog fn_entry_shard ⟨[(Value.int .i64 n19)]⟩ w7 fun e20 w21 =>
    ∃ b22 : Bool, e20 = .returned (Value.bool b22) ∧
    BIf b22 (
      ∃ n23 : Int, World.cell? w21 (⟨r6, 1, none⟩ : Addr) = some (Value.int .i64 n23) ∧
      BIf (decide ((0 : Int) ≤ n23)) (
        ∃ n24 : Int, World.cell? w21 (⟨r6, 1, none⟩ : Addr) = some (Value.int .i64 n24) ∧
        BIf (decide (n24 ≤ (4096 : Int))) (
          ∃ n25 : Int, World.cell? w21 (⟨r6, 2, none⟩ : Addr) = some (Value.int .i64 n25) ∧
          Calls Tryd.prog fn_entry_within ⟨[(Value.int .i64 n25), (Value.int .i64 (64 : Int))]⟩ w21 fun e26 w27 =>
          ∃ b28 : Bool, e26 = .returned (Value.bool b28) ∧
          BIf b28 (
            ∃ n29 : Int, World.cell? w27 (⟨r6, 3, none⟩ : Addr) = some (Value.int .i64 n29) ∧
            BIf (decide ((0 : Int) ≤ n29)) (
              ∃ n30 : Int, World.cell? w27 (⟨r6, 3, none⟩ : Addr) = some (Value.int .i64 n30) ∧
              ∃ n31 : Int, World.cell? w27 (⟨r6, 2, none⟩ : Addr) = some (Value.int .i64 n31) ∧
              BIf (decide (n30 < n31)) (
                ∃ s32 : Slc, World.cell? w27 (⟨r6, 4, none⟩ : Addr) = some (Slc.v s32) ∧
                K (Value.bool (decide (((s32.l : Nat) : Int) ≤ (256 : Int)))) w27) (
                K (Value.bool false) w27)) (
              K (Value.bool false) w27)) (
            K (Value.bool false) w27)) (
          K (Value.bool false) w21)) (
        K (Value.bool false) w21)) (
      K (Value.bool false) w21))

theorem entry_checking_right_eq (c1 : Int) (c2 : Int) (c3 : Int) (c4 : Int) (c5 : Slc) (w : World) (K : Value → World → Prop) : entry_checking_right c1 c2 c3 c4 c5 w K = denF Tryd.prog callB Tryd.f89 .none [(Value.agg ⟨[(Value.int .i64 c1), (Value.int .i64 c2), (Value.int .i64 c3), (Value.int .i64 c4), (Slc.v c5)]⟩)] w K := by kernel_rfl
theorem entry_checking_right_ok (c1 : Int) (c2 : Int) (c3 : Int) (c4 : Int) (c5 : Slc) {w : World} {R : Ending → World → Prop} (h : entry_checking_right c1 c2 c3 c4 c5 w fun v w' => R (.returned v) w') : Calls Tryd.prog fn_entry_checking_right ⟨[(Value.agg ⟨[(Value.int .i64 c1), (Value.int .i64 c2), (Value.int .i64 c3), (Value.int .i64 c4), (Slc.v c5)]⟩)]⟩ w R :=
  calls_of_den callB_ok mixed Tryd.func89 (entry_checking_right_eq c1 c2 c3 c4 c5 w _ ▸ h)

/-- (tidewater/entry.checking).streams -/
def entry_checking_streams (c1 : Int) (c2 : Int) (c3 : Int) (c4 : Int) (c5 : Slc) (w : World) (K : Value → World → Prop) : Prop :=
  newS w (.cells ⟨[(Value.int .i64 c1), (Value.int .i64 c2), (Value.int .i64 c3), (Value.int .i64 c4), (Slc.v c5)]⟩ 94) fun r6 w7 =>
  ∃ n8 : Int, World.cell? w7 (⟨r6, 0, none⟩ : Addr) = some (Value.int .i64 n8) ∧
  newS w7 (.cells ⟨[(Value.int .i64 n8)]⟩ 3) fun r9 w10 =>
  K (Slc.v (⟨(some (⟨r9, 0, none⟩ : Addr)), 1, 1⟩ : Slc)) w10

theorem entry_checking_streams_eq (c1 : Int) (c2 : Int) (c3 : Int) (c4 : Int) (c5 : Slc) (w : World) (K : Value → World → Prop) : entry_checking_streams c1 c2 c3 c4 c5 w K = denF Tryd.prog callB Tryd.f90 .none [(Value.agg ⟨[(Value.int .i64 c1), (Value.int .i64 c2), (Value.int .i64 c3), (Value.int .i64 c4), (Slc.v c5)]⟩)] w K := by kernel_rfl
theorem entry_checking_streams_ok (c1 : Int) (c2 : Int) (c3 : Int) (c4 : Int) (c5 : Slc) {w : World} {R : Ending → World → Prop} (h : entry_checking_streams c1 c2 c3 c4 c5 w fun v w' => R (.returned v) w') : Calls Tryd.prog fn_entry_checking_streams ⟨[(Value.agg ⟨[(Value.int .i64 c1), (Value.int .i64 c2), (Value.int .i64 c3), (Value.int .i64 c4), (Slc.v c5)]⟩)]⟩ w R :=
  calls_of_den callB_ok mixed Tryd.func90 (entry_checking_streams_eq c1 c2 c3 c4 c5 w _ ▸ h)

/-- (tidewater/entry.checking).write -/
def entry_checking_write (c1 : Int) (c2 : Int) (c3 : Int) (c4 : Int) (c5 : Slc) (o6 : Option Addr) (w : World) (K : Value → World → Prop) : Prop :=
  newS w (.cells ⟨[(Value.int .i64 c1), (Value.int .i64 c2), (Value.int .i64 c3), (Value.int .i64 c4), (Slc.v c5)]⟩ 94) fun r7 w8 =>
  ∃ n9 : Int, World.cell? w8 (⟨r7, 0, none⟩ : Addr) = some (Value.int .i64 n9) ∧
  ∃ n10 : Int, World.cell? w8 (⟨r7, 1, none⟩ : Addr) = some (Value.int .i64 n10) ∧
  ∃ n11 : Int, World.cell? w8 (⟨r7, 2, none⟩ : Addr) = some (Value.int .i64 n11) ∧
  ∃ n12 : Int, World.cell? w8 (⟨r7, 3, none⟩ : Addr) = some (Value.int .i64 n12) ∧
  newS w8 (.cells ⟨[(Value.int .i64 (5 : Int)), (Value.int .i64 n9), (Value.int .i64 n10), (Value.int .i64 n11), (Value.int .i64 n12)]⟩ 3) fun r13 w14 =>
  Calls Tryd.prog fn_entry_nums ⟨[(Value.pointer o6), (Slc.v (⟨(some (⟨r13, 0, none⟩ : Addr)), 5, 5⟩ : Slc))]⟩ w14 fun e15 w16 =>
  e15 = .returned (Value.tuple #[]) ∧
  ∃ s17 : Slc, World.cell? w16 (⟨r7, 4, none⟩ : Addr) = some (Slc.v s17) ∧
  ∃ t18 : List UInt8, bytesAt w16 s17 t18 ∧
  Calls Tryd.prog fn_pack_Out_Text ⟨[(Value.pointer o6), (strV t18)]⟩ w16 fun e19 w20 =>
  e19 = .returned (Value.tuple #[]) ∧
  K (Value.tuple #[]) w20

theorem entry_checking_write_eq (c1 : Int) (c2 : Int) (c3 : Int) (c4 : Int) (c5 : Slc) (o6 : Option Addr) (w : World) (K : Value → World → Prop) : entry_checking_write c1 c2 c3 c4 c5 o6 w K = denF Tryd.prog callB Tryd.f91 .none [(Value.agg ⟨[(Value.int .i64 c1), (Value.int .i64 c2), (Value.int .i64 c3), (Value.int .i64 c4), (Slc.v c5)]⟩), (Value.pointer o6)] w K := by kernel_rfl
theorem entry_checking_write_ok (c1 : Int) (c2 : Int) (c3 : Int) (c4 : Int) (c5 : Slc) (o6 : Option Addr) {w : World} {R : Ending → World → Prop} (h : entry_checking_write c1 c2 c3 c4 c5 o6 w fun v w' => R (.returned v) w') : Calls Tryd.prog fn_entry_checking_write ⟨[(Value.agg ⟨[(Value.int .i64 c1), (Value.int .i64 c2), (Value.int .i64 c3), (Value.int .i64 c4), (Slc.v c5)]⟩), (Value.pointer o6)]⟩ w R :=
  calls_of_den callB_ok mixed Tryd.func91 (entry_checking_write_eq c1 c2 c3 c4 c5 o6 w _ ▸ h)

/-- tidewater/entry.nums -/
def entry_nums (o1 : Option Addr) (list2 : Slc) (w : World) (K : Value → World → Prop) : Prop :=
  ∃ (I3 : (Int) → World → Prop) (mu4 : (Int) → World → Nat), I3 ((0 : Int)) w ∧ (
  ∀ i5 : Int, ∀ w6 : World, I3 i5 w6 → ∀ u7 u8 u9 u10 u11 u12 u13 u14 : Value,
    BIf (decide (i5 < ((list2.l : Nat) : Int))) (
      needSome list2.p fun a15 =>
      0 ≤ i5 ∧ i5 < ((list2.l : Nat) : Int) ∧
      ∃ n16 : Int, World.cell? w6 (Addr.add a15 ((Int.toNat i5) * 1)) = some (Value.int .i64 n16) ∧
      Calls Tryd.prog fn_pack_Out_Num ⟨[(Value.pointer o1), (Value.int .i64 n16)]⟩ w6 fun e17 w18 =>
      e17 = .returned (Value.tuple #[]) ∧
      inR .i64 (i5 + (1 : Int)) ∧
      (I3 ((i5 + (1 : Int))) w18 ∧ mu4 ((i5 + (1 : Int))) w18 < mu4 i5 w6)) (
      K (Value.tuple #[]) w6))

theorem entry_nums_eq (o1 : Option Addr) (list2 : Slc) (w : World) (K : Value → World → Prop) : entry_nums o1 list2 w K = denF Tryd.prog callB Tryd.f79 (.two .none (.one (.loop [(8, (Sh.int .i64))] [5, 9, 10, 11, 12, 13, 14, 15] .none))) [(Value.pointer o1), (Slc.v list2)] w K := by kernel_rfl
theorem entry_nums_ok (o1 : Option Addr) (list2 : Slc) {w : World} {R : Ending → World → Prop} (h : entry_nums o1 list2 w fun v w' => R (.returned v) w') : Calls Tryd.prog fn_entry_nums ⟨[(Value.pointer o1), (Slc.v list2)]⟩ w R :=
  calls_of_den callB_ok mixed Tryd.func79 (entry_nums_eq o1 list2 w _ ▸ h)

/-- tidewater/entry.of -/
def entry_of (e1 : Int) (e2 : Int) (e3 : Int) (e4 : Int) (e5 : Int) (e6 : Int) (e7 : Slc) (e8 : List UInt8) (e9 : Int) (e10 : Int) (e11 : Int) (e12 : Slc) (w : World) (K : Value → World → Prop) : Prop :=
  newS w (.cells ⟨[(Value.int .i64 e1), (Value.int .i64 e2), (Value.int .i64 e3), (Value.int .i64 e4), (Value.int .i64 e5), (Value.int .i64 e6), (Slc.v e7), (strV e8), (Value.int .i64 e9), (Value.int .i64 e10), (Value.int .i64 e11), (Slc.v e12)]⟩ 25) fun r13 w14 =>
  ∃ n15 : Int, World.cell? w14 (⟨r13, 0, none⟩ : Addr) = some (Value.int .i64 n15) ∧
  BIf (decide (n15 = (1 : Int))) (
    ∃ n16 : Int, World.cell? w14 (⟨r13, 1, none⟩ : Addr) = some (Value.int .i64 n16) ∧
    ∃ n17 : Int, World.cell? w14 (⟨r13, 4, none⟩ : Addr) = some (Value.int .i64 n17) ∧
    ∃ n18 : Int, World.cell? w14 (⟨r13, 5, none⟩ : Addr) = some (Value.int .i64 n18) ∧
    ∃ s19 : Slc, World.cell? w14 (⟨r13, 6, none⟩ : Addr) = some (Slc.v s19) ∧
    K (Value.iface 108 (Value.agg ⟨[(Value.int .i64 n16), (Value.int .i64 n17), (Value.int .i64 n18), (Slc.v s19)]⟩)) w14) (
    BIf (decide (n15 = (2 : Int))) (
      ∃ n20 : Int, World.cell? w14 (⟨r13, 1, none⟩ : Addr) = some (Value.int .i64 n20) ∧
      ∃ n21 : Int, World.cell? w14 (⟨r13, 3, none⟩ : Addr) = some (Value.int .i64 n21) ∧
      K (Value.iface 88 (Value.agg ⟨[(Value.int .i64 n20), (Value.int .i64 n21)]⟩)) w14) (
      BIf (decide (n15 = (3 : Int))) (
        ∃ n22 : Int, World.cell? w14 (⟨r13, 1, none⟩ : Addr) = some (Value.int .i64 n22) ∧
        ∃ n23 : Int, World.cell? w14 (⟨r13, 2, none⟩ : Addr) = some (Value.int .i64 n23) ∧
        ∃ n24 : Int, World.cell? w14 (⟨r13, 3, none⟩ : Addr) = some (Value.int .i64 n24) ∧
        ∃ t25 : List UInt8, World.cell? w14 (⟨r13, 7, none⟩ : Addr) = some (strV t25) ∧
        K (Value.iface 90 (Value.agg ⟨[(Value.int .i64 n22), (Value.int .i64 n23), (Value.int .i64 n24), (strV t25)]⟩)) w14) (
        BIf (decide (n15 = (4 : Int))) (
          ∃ n26 : Int, World.cell? w14 (⟨r13, 1, none⟩ : Addr) = some (Value.int .i64 n26) ∧
          ∃ n27 : Int, World.cell? w14 (⟨r13, 2, none⟩ : Addr) = some (Value.int .i64 n27) ∧
          K (Value.iface 92 (Value.agg ⟨[(Value.int .i64 n26), (Value.int .i64 n27)]⟩)) w14) (
          BIf (decide (n15 = (5 : Int))) (
            ∃ n28 : Int, World.cell? w14 (⟨r13, 1, none⟩ : Addr) = some (Value.int .i64 n28) ∧
            ∃ n29 : Int, World.cell? w14 (⟨r13, 8, none⟩ : Addr) = some (Value.int .i64 n29) ∧
            ∃ n30 : Int, World.cell? w14 (⟨r13, 10, none⟩ : Addr) = some (Value.int .i64 n30) ∧
            ∃ n31 : Int, World.cell? w14 (⟨r13, 9, none⟩ : Addr) = some (Value.int .i64 n31) ∧
            ∃ s32 : Slc, World.cell? w14 (⟨r13, 11, none⟩ : Addr) = some (Slc.v s32) ∧
            K (Value.iface 94 (Value.agg ⟨[(Value.int .i64 n28), (Value.int .i64 n29), (Value.int .i64 n30), (Value.int .i64 n31), (Slc.v s32)]⟩)) w14) (
            K Value.nilIface w14)))))

theorem entry_of_eq (e1 : Int) (e2 : Int) (e3 : Int) (e4 : Int) (e5 : Int) (e6 : Int) (e7 : Slc) (e8 : List UInt8) (e9 : Int) (e10 : Int) (e11 : Int) (e12 : Slc) (w : World) (K : Value → World → Prop) : entry_of e1 e2 e3 e4 e5 e6 e7 e8 e9 e10 e11 e12 w K = denF Tryd.prog callB Tryd.f48 .none [(Value.agg ⟨[(Value.int .i64 e1), (Value.int .i64 e2), (Value.int .i64 e3), (Value.int .i64 e4), (Value.int .i64 e5), (Value.int .i64 e6), (Slc.v e7), (strV e8), (Value.int .i64 e9), (Value.int .i64 e10), (Value.int .i64 e11), (Slc.v e12)]⟩)] w K := by kernel_rfl
theorem entry_of_ok (e1 : Int) (e2 : Int) (e3 : Int) (e4 : Int) (e5 : Int) (e6 : Int) (e7 : Slc) (e8 : List UInt8) (e9 : Int) (e10 : Int) (e11 : Int) (e12 : Slc) {w : World} {R : Ending → World → Prop} (h : entry_of e1 e2 e3 e4 e5 e6 e7 e8 e9 e10 e11 e12 w fun v w' => R (.returned v) w') : Calls Tryd.prog fn_entry_of ⟨[(Value.agg ⟨[(Value.int .i64 e1), (Value.int .i64 e2), (Value.int .i64 e3), (Value.int .i64 e4), (Value.int .i64 e5), (Value.int .i64 e6), (Slc.v e7), (strV e8), (Value.int .i64 e9), (Value.int .i64 e10), (Value.int .i64 e11), (Slc.v e12)]⟩)]⟩ w R :=
  calls_of_den callB_ok mixed Tryd.func48 (entry_of_eq e1 e2 e3 e4 e5 e6 e7 e8 e9 e10 e11 e12 w _ ▸ h)

/-- tidewater/entry.Right -/
def entry_Right (e1 : Int) (e2 : Int) (e3 : Int) (e4 : Int) (e5 : Int) (e6 : Int) (e7 : Slc) (e8 : List UInt8) (e9 : Int) (e10 : Int) (e11 : Int) (e12 : Slc) (w : World) (K : Value → World → Prop) : Prop :=
  newS w (.cells ⟨[(Value.int .i64 e1), (Value.int .i64 e2), (Value.int .i64 e3), (Value.int .i64 e4), (Value.int .i64 e5), (Value.int .i64 e6), (Slc.v e7), (strV e8), (Value.int .i64 e9), (Value.int .i64 e10), (Value.int .i64 e11), (Slc.v e12)]⟩ 25) fun r13 w14 =>
  ∃ n15 : Int, ∃ n16 : Int, ∃ n17 : Int, ∃ n18 : Int, ∃ n19 : Int, ∃ n20 : Int, ∃ s21 : Slc, ∃ t22 : List UInt8, ∃ n23 : Int, ∃ n24 : Int, ∃ n25 : Int, ∃ s26 : Slc, rowAt w14 (⟨r13, 0, none⟩ : Addr) 0 [(Value.int .i64 n15), (Value.int .i64 n16), (Value.int .i64 n17), (Value.int .i64 n18), (Value.int .i64 n19), (Value.int .i64 n20), (Slc.v s21), (strV t22), (Value.int .i64 n23), (Value.int .i64 n24), (Value.int .i64 n25), (Slc.v s26)] ∧
  Calls Tryd.prog fn_entry_of ⟨[(Value.agg ⟨[(Value.int .i64 n15), (Value.int .i64 n16), (Value.int .i64 n17), (Value.int .i64 n18), (Value.int .i64 n19), (Value.int .i64 n20), (Slc.v s21), (strV t22), (Value.int .i64 n23), (Value.int .i64 n24), (Value.int .i64 n25), (Slc.v s26)]⟩)]⟩ w14 fun e27 w28 =>
  ∃ e29 : Value, e27 = .returned e29 ∧
  isI e29 ∧
  BIf (!isNilI e29) (
    ∃ (t30 : Nat) (v31 rv32 : Value) (g33 : Nat), e29 = .iface t30 v31 ∧ (∀ w : World, (method (Array.size Tryd.prog.types + Made.depth) t30 v31 "tidewater/entry.right").run Tryd.prog w = .ok (g33, rv32) w) ∧ callB g33 = true ∧
    Calls Tryd.prog g33 ⟨rv32 :: []⟩ w28 fun e34 w35 =>
    ∃ b36 : Bool, e34 = .returned (Value.bool b36) ∧
    K (Value.bool b36) w35) (
    K (Value.bool false) w28)

theorem entry_Right_eq (e1 : Int) (e2 : Int) (e3 : Int) (e4 : Int) (e5 : Int) (e6 : Int) (e7 : Slc) (e8 : List UInt8) (e9 : Int) (e10 : Int) (e11 : Int) (e12 : Slc) (w : World) (K : Value → World → Prop) : entry_Right e1 e2 e3 e4 e5 e6 e7 e8 e9 e10 e11 e12 w K = denF Tryd.prog callB Tryd.f47 .none [(Value.agg ⟨[(Value.int .i64 e1), (Value.int .i64 e2), (Value.int .i64 e3), (Value.int .i64 e4), (Value.int .i64 e5), (Value.int .i64 e6), (Slc.v e7), (strV e8), (Value.int .i64 e9), (Value.int .i64 e10), (Value.int .i64 e11), (Slc.v e12)]⟩)] w K := by kernel_rfl
theorem entry_Right_ok (e1 : Int) (e2 : Int) (e3 : Int) (e4 : Int) (e5 : Int) (e6 : Int) (e7 : Slc) (e8 : List UInt8) (e9 : Int) (e10 : Int) (e11 : Int) (e12 : Slc) {w : World} {R : Ending → World → Prop} (h : entry_Right e1 e2 e3 e4 e5 e6 e7 e8 e9 e10 e11 e12 w fun v w' => R (.returned v) w') : Calls Tryd.prog fn_entry_Right ⟨[(Value.agg ⟨[(Value.int .i64 e1), (Value.int .i64 e2), (Value.int .i64 e3), (Value.int .i64 e4), (Value.int .i64 e5), (Value.int .i64 e6), (Slc.v e7), (strV e8), (Value.int .i64 e9), (Value.int .i64 e10), (Value.int .i64 e11), (Slc.v e12)]⟩)]⟩ w R :=
  calls_of_den callB_ok mixed Tryd.func47 (entry_Right_eq e1 e2 e3 e4 e5 e6 e7 e8 e9 e10 e11 e12 w _ ▸ h)

/-- tidewater/entry.Bytes -/
def entry_Bytes (e1 : Int) (e2 : Int) (e3 : Int) (e4 : Int) (e5 : Int) (e6 : Int) (e7 : Slc) (e8 : List UInt8) (e9 : Int) (e10 : Int) (e11 : Int) (e12 : Slc) (w : World) (K : Value → World → Prop) : Prop :=
  newS w (.cells ⟨[(Value.int .i64 e1), (Value.int .i64 e2), (Value.int .i64 e3), (Value.int .i64 e4), (Value.int .i64 e5), (Value.int .i64 e6), (Slc.v e7), (strV e8), (Value.int .i64 e9), (Value.int .i64 e10), (Value.int .i64 e11), (Slc.v e12)]⟩ 25) fun r13 w14 =>
  ∃ n15 : Int, ∃ n16 : Int, ∃ n17 : Int, ∃ n18 : Int, ∃ n19 : Int, ∃ n20 : Int, ∃ s21 : Slc, ∃ t22 : List UInt8, ∃ n23 : Int, ∃ n24 : Int, ∃ n25 : Int, ∃ s26 : Slc, rowAt w14 (⟨r13, 0, none⟩ : Addr) 0 [(Value.int .i64 n15), (Value.int .i64 n16), (Value.int .i64 n17), (Value.int .i64 n18), (Value.int .i64 n19), (Value.int .i64 n20), (Slc.v s21), (strV t22), (Value.int .i64 n23), (Value.int .i64 n24), (Value.int .i64 n25), (Slc.v s26)] ∧
  Calls Tryd.prog fn_entry_Right ⟨[(Value.agg ⟨[(Value.int .i64 n15), (Value.int .i64 n16), (Value.int .i64 n17), (Value.int .i64 n18), (Value.int .i64 n19), (Value.int .i64 n20), (Slc.v s21), (strV t22), (Value.int .i64 n23), (Value.int .i64 n24), (Value.int .i64 n25), (Slc.v s26)]⟩)]⟩ w14 fun e27 w28 =>
  ∃ b29 : Bool, e27 = .returned (Value.bool b29) ∧
  BIf (!b29) (
    ∃ v30 : Value, World.cell? (World.drew w28) (⟨gl_ErrForm, 0, none⟩ : Addr) = some v30 ∧
    K (Value.tuple ⟨[(Slc.v (⟨none, 0, 0⟩ : Slc)), v30]⟩) (World.drew w28)) (
    newS w28 (.cells ⟨[(Slc.v (⟨none, 0, 0⟩ : Slc)), Value.nilIface]⟩ 69) fun r31 w32 =>
    ∃ n33 : Int, ∃ n34 : Int, ∃ n35 : Int, ∃ n36 : Int, ∃ n37 : Int, ∃ n38 : Int, ∃ s39 : Slc, ∃ t40 : List UInt8, ∃ n41 : Int, ∃ n42 : Int, ∃ n43 : Int, ∃ s44 : Slc, rowAt w32 (⟨r13, 0, none⟩ : Addr) 0 [(Value.int .i64 n33), (Value.int .i64 n34), (Value.int .i64 n35), (Value.int .i64 n36), (Value.int .i64 n37), (Value.int .i64 n38), (Slc.v s39), (strV t40), (Value.int .i64 n41), (Value.int .i64 n42), (Value.int .i64 n43), (Slc.v s44)] ∧
    Calls Tryd.prog fn_entry_of ⟨[(Value.agg ⟨[(Value.int .i64 n33), (Value.int .i64 n34), (Value.int .i64 n35), (Value.int .i64 n36), (Value.int .i64 n37), (Value.int .i64 n38), (Slc.v s39), (strV t40), (Value.int .i64 n41), (Value.int .i64 n42), (Value.int .i64 n43), (Slc.v s44)]⟩)]⟩ w32 fun e45 w46 =>
    ∃ e47 : Value, e45 = .returned e47 ∧
    ∃ (t48 : Nat) (v49 rv50 : Value) (g51 : Nat), e47 = .iface t48 v49 ∧ (∀ w : World, (method (Array.size Tryd.prog.types + Made.depth) t48 v49 "tidewater/entry.write").run Tryd.prog w = .ok (g51, rv50) w) ∧ callB g51 = true ∧
    Calls Tryd.prog g51 ⟨rv50 :: [(Value.pointer (some (⟨r31, 0, none⟩ : Addr)))]⟩ w46 fun e52 w53 =>
    e52 = .returned (Value.tuple #[]) ∧
    Calls Tryd.prog fn_pack_Out_Done ⟨[(Value.pointer (some (⟨r31, 0, none⟩ : Addr)))]⟩ w53 fun e54 w55 =>
    ∃ s56 : Slc, ∃ e57 : Value, e54 = .returned (Value.tuple ⟨[(Slc.v s56), e57]⟩) ∧
    isI e57 ∧
    BIf (isNilI e57) (
      BIf (decide ((1848 : Int) < ((s56.l : Nat) : Int))) (
        ∃ v58 : Value, World.cell? (World.drew w55) (⟨gl_ErrLong, 0, none⟩ : Addr) = some v58 ∧
        K (Value.tuple ⟨[(Slc.v (⟨none, 0, 0⟩ : Slc)), v58]⟩) (World.drew w55)) (
        K (Value.tuple ⟨[(Slc.v s56), e57]⟩) w55)) (
      K (Value.tuple ⟨[(Slc.v s56), e57]⟩) w55))

theorem entry_Bytes_eq (e1 : Int) (e2 : Int) (e3 : Int) (e4 : Int) (e5 : Int) (e6 : Int) (e7 : Slc) (e8 : List UInt8) (e9 : Int) (e10 : Int) (e11 : Int) (e12 : Slc) (w : World) (K : Value → World → Prop) : entry_Bytes e1 e2 e3 e4 e5 e6 e7 e8 e9 e10 e11 e12 w K = denF Tryd.prog callB Tryd.f27 .none [(Value.agg ⟨[(Value.int .i64 e1), (Value.int .i64 e2), (Value.int .i64 e3), (Value.int .i64 e4), (Value.int .i64 e5), (Value.int .i64 e6), (Slc.v e7), (strV e8), (Value.int .i64 e9), (Value.int .i64 e10), (Value.int .i64 e11), (Slc.v e12)]⟩)] w K := by kernel_rfl
theorem entry_Bytes_ok (e1 : Int) (e2 : Int) (e3 : Int) (e4 : Int) (e5 : Int) (e6 : Int) (e7 : Slc) (e8 : List UInt8) (e9 : Int) (e10 : Int) (e11 : Int) (e12 : Slc) {w : World} {R : Ending → World → Prop} (h : entry_Bytes e1 e2 e3 e4 e5 e6 e7 e8 e9 e10 e11 e12 w fun v w' => R (.returned v) w') : Calls Tryd.prog fn_entry_Bytes ⟨[(Value.agg ⟨[(Value.int .i64 e1), (Value.int .i64 e2), (Value.int .i64 e3), (Value.int .i64 e4), (Value.int .i64 e5), (Value.int .i64 e6), (Slc.v e7), (strV e8), (Value.int .i64 e9), (Value.int .i64 e10), (Value.int .i64 e11), (Slc.v e12)]⟩)]⟩ w R :=
  calls_of_den callB_ok mixed Tryd.func27 (entry_Bytes_eq e1 e2 e3 e4 e5 e6 e7 e8 e9 e10 e11 e12 w _ ▸ h)

/-- tidewater/entry.Streams -/
def entry_Streams (e1 : Int) (e2 : Int) (e3 : Int) (e4 : Int) (e5 : Int) (e6 : Int) (e7 : Slc) (e8 : List UInt8) (e9 : Int) (e10 : Int) (e11 : Int) (e12 : Slc) (w : World) (K : Value → World → Prop) : Prop :=
  newS w (.cells ⟨[(Value.int .i64 e1), (Value.int .i64 e2), (Value.int .i64 e3), (Value.int .i64 e4), (Value.int .i64 e5), (Value.int .i64 e6), (Slc.v e7), (strV e8), (Value.int .i64 e9), (Value.int .i64 e10), (Value.int .i64 e11), (Slc.v e12)]⟩ 25) fun r13 w14 =>
  ∃ n15 : Int, ∃ n16 : Int, ∃ n17 : Int, ∃ n18 : Int, ∃ n19 : Int, ∃ n20 : Int, ∃ s21 : Slc, ∃ t22 : List UInt8, ∃ n23 : Int, ∃ n24 : Int, ∃ n25 : Int, ∃ s26 : Slc, rowAt w14 (⟨r13, 0, none⟩ : Addr) 0 [(Value.int .i64 n15), (Value.int .i64 n16), (Value.int .i64 n17), (Value.int .i64 n18), (Value.int .i64 n19), (Value.int .i64 n20), (Slc.v s21), (strV t22), (Value.int .i64 n23), (Value.int .i64 n24), (Value.int .i64 n25), (Slc.v s26)] ∧
  Calls Tryd.prog fn_entry_Right ⟨[(Value.agg ⟨[(Value.int .i64 n15), (Value.int .i64 n16), (Value.int .i64 n17), (Value.int .i64 n18), (Value.int .i64 n19), (Value.int .i64 n20), (Slc.v s21), (strV t22), (Value.int .i64 n23), (Value.int .i64 n24), (Value.int .i64 n25), (Slc.v s26)]⟩)]⟩ w14 fun e27 w28 =>
  ∃ b29 : Bool, e27 = .returned (Value.bool b29) ∧
  BIf (!b29) (
    K (Slc.v (⟨none, 0, 0⟩ : Slc)) w28) (
    ∃ n30 : Int, ∃ n31 : Int, ∃ n32 : Int, ∃ n33 : Int, ∃ n34 : Int, ∃ n35 : Int, ∃ s36 : Slc, ∃ t37 : List UInt8, ∃ n38 : Int, ∃ n39 : Int, ∃ n40 : Int, ∃ s41 : Slc, rowAt w28 (⟨r13, 0, none⟩ : Addr) 0 [(Value.int .i64 n30), (Value.int .i64 n31), (Value.int .i64 n32), (Value.int .i64 n33), (Value.int .i64 n34), (Value.int .i64 n35), (Slc.v s36), (strV t37), (Value.int .i64 n38), (Value.int .i64 n39), (Value.int .i64 n40), (Slc.v s41)] ∧
    Calls Tryd.prog fn_entry_of ⟨[(Value.agg ⟨[(Value.int .i64 n30), (Value.int .i64 n31), (Value.int .i64 n32), (Value.int .i64 n33), (Value.int .i64 n34), (Value.int .i64 n35), (Slc.v s36), (strV t37), (Value.int .i64 n38), (Value.int .i64 n39), (Value.int .i64 n40), (Slc.v s41)]⟩)]⟩ w28 fun e42 w43 =>
    ∃ e44 : Value, e42 = .returned e44 ∧
    ∃ (t45 : Nat) (v46 rv47 : Value) (g48 : Nat), e44 = .iface t45 v46 ∧ (∀ w : World, (method (Array.size Tryd.prog.types + Made.depth) t45 v46 "tidewater/entry.streams").run Tryd.prog w = .ok (g48, rv47) w) ∧ callB g48 = true ∧
    Calls Tryd.prog g48 ⟨rv47 :: []⟩ w43 fun e49 w50 =>
    ∃ s51 : Slc, e49 = .returned (Slc.v s51) ∧
    K (Slc.v s51) w50)

theorem entry_Streams_eq (e1 : Int) (e2 : Int) (e3 : Int) (e4 : Int) (e5 : Int) (e6 : Int) (e7 : Slc) (e8 : List UInt8) (e9 : Int) (e10 : Int) (e11 : Int) (e12 : Slc) (w : World) (K : Value → World → Prop) : entry_Streams e1 e2 e3 e4 e5 e6 e7 e8 e9 e10 e11 e12 w K = denF Tryd.prog callB Tryd.f23 .none [(Value.agg ⟨[(Value.int .i64 e1), (Value.int .i64 e2), (Value.int .i64 e3), (Value.int .i64 e4), (Value.int .i64 e5), (Value.int .i64 e6), (Slc.v e7), (strV e8), (Value.int .i64 e9), (Value.int .i64 e10), (Value.int .i64 e11), (Slc.v e12)]⟩)] w K := by kernel_rfl
theorem entry_Streams_ok (e1 : Int) (e2 : Int) (e3 : Int) (e4 : Int) (e5 : Int) (e6 : Int) (e7 : Slc) (e8 : List UInt8) (e9 : Int) (e10 : Int) (e11 : Int) (e12 : Slc) {w : World} {R : Ending → World → Prop} (h : entry_Streams e1 e2 e3 e4 e5 e6 e7 e8 e9 e10 e11 e12 w fun v w' => R (.returned v) w') : Calls Tryd.prog fn_entry_Streams ⟨[(Value.agg ⟨[(Value.int .i64 e1), (Value.int .i64 e2), (Value.int .i64 e3), (Value.int .i64 e4), (Value.int .i64 e5), (Value.int .i64 e6), (Slc.v e7), (strV e8), (Value.int .i64 e9), (Value.int .i64 e10), (Value.int .i64 e11), (Slc.v e12)]⟩)]⟩ w R :=
  calls_of_den callB_ok mixed Tryd.func23 (entry_Streams_eq e1 e2 e3 e4 e5 e6 e7 e8 e9 e10 e11 e12 w _ ▸ h)

end Go.D
