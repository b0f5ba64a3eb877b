/-
  WHAT IS PROVED: verification conditions of functions of this program, each with its soundness. No further conditions.
-/
import Derived.Test.YtojcoegekkcojaaDoorBase
set_option linter.unusedSimpArgs false
set_option maxRecDepth 100000
set_option linter.unusedVariables false
namespace Go.D
open Go Go.Proofs
/-- tidewater/tidewaterlaw05.alive -/
def tidewaterlaw05_alive  (w : World) (K : Value → World → Prop) : Prop :=
  Calls Tryd.prog fn_entry_Bytes ⟨[(Value.agg ⟨[(Value.int .i64 (4 : Int)), (Value.int .i64 (1 : Int)), (Value.int .i64 (2 : Int)), (Value.int .i64 (0 : Int)), (Value.int .i64 (0 : Int)), (Value.int .i64 (0 : Int)), (Slc.v (⟨none, 0, 0⟩ : Slc)), (strV ([] : List UInt8)), (Value.int .i64 (0 : Int)), (Value.int .i64 (0 : Int)), (Value.int .i64 (0 : Int)), (Slc.v (⟨none, 0, 0⟩ : Slc))]⟩)]⟩ w fun e1 w2 =>
  ∃ s3 : Slc, ∃ e4 : Value, e1 = .returned (Value.tuple ⟨[(Slc.v s3), e4]⟩) ∧
  isI e4 ∧
  BIf (isNilI e4) (
    ∃ t5 : List UInt8, bytesAt w2 s3 t5 ∧
    K (Value.bool (decide (t5 = ([4, 1, 2] : List UInt8)))) w2) (
    K (Value.bool false) w2)

theorem tidewaterlaw05_alive_eq  (w : World) (K : Value → World → Prop) : tidewaterlaw05_alive  w K = denF Tryd.prog callB Tryd.f6 .none [] w K := by kernel_rfl
theorem tidewaterlaw05_alive_ok  {w : World} {R : Ending → World → Prop} (h : tidewaterlaw05_alive  w fun v w' => R (.returned v) w') : Calls Tryd.prog fn_tidewaterlaw05_alive ⟨[]⟩ w R :=
  calls_of_den callB_ok mixed Tryd.func6 (tidewaterlaw05_alive_eq  w _ ▸ h)

/-- tidewater/tidewaterlaw05.long -/
def tidewaterlaw05_long (e1 : Int) (e2 : Int) (e3 : Int) (e4 : Int) (e5 : Int) (e6 : Int) (e7 : Slc) (e8 : List UInt8) (e9 : Int) (e10 : Int) (e11 : Int) (e12 : Slc) (w : World) (K : Value → World → Prop) : Prop :=
  newS w (.cells ⟨[(Value.int .i64 e1), (Value.int .i64 e2), (Value.int .i64 e3), (Value.int .i64 e4), (Value.int .i64 e5), (Value.int .i64 e6), (Slc.v e7), (strV e8), (Value.int .i64 e9), (Value.int .i64 e10), (Value.int .i64 e11), (Slc.v e12)]⟩ 25) fun r13 w14 =>
  ∃ J15 : World → Prop,
  (
    ∃ s16 : Slc, World.cell? w14 (⟨r13, 6, none⟩ : Addr) = some (Slc.v s16) ∧
    BIf (decide ((20 : Int) < ((s16.l : Nat) : Int))) (
      K (Value.bool true) w14) (
      ∃ t17 : List UInt8, World.cell? w14 (⟨r13, 7, none⟩ : Addr) = some (strV t17) ∧
      BIf (decide ((300 : Int) < (((List.length t17) : Nat) : Int))) (
        K (Value.bool true) w14) (
        ∃ s18 : Slc, World.cell? w14 (⟨r13, 11, none⟩ : Addr) = some (Slc.v s18) ∧
        BIf (decide ((600 : Int) < ((s18.l : Nat) : Int))) (
          K (Value.bool true) w14) (
          J15 w14)))) ∧ (
  ∀ w19 : World, J15 w19 → ∀ u20 u21 u22 u23 u24 u25 u26 u27 u28 u29 u30 u31 u32 u33 u34 u35 u36 : Value,
    ∃ s37 : Slc, World.cell? w19 (⟨r13, 6, none⟩ : Addr) = some (Slc.v s37) ∧
    ∃ (I38 : (Int) → World → Prop) (mu39 : (Int) → World → Nat), I38 ((0 : Int)) w19 ∧ (
    ∀ i40 : Int, ∀ w41 : World, I38 i40 w41 → ∀ u42 u43 u44 u45 u46 u47 u48 u49 u50 u51 u52 u53 u54 u55 u56 u57 u58 u59 u60 u61 u62 u63 : Value,
      BIf (decide (i40 < ((s37.l : Nat) : Int))) (
        needSome s37.p fun a64 =>
        0 ≤ i40 ∧ i40 < ((s37.l : Nat) : Int) ∧
        ∃ n65 : Int, ∃ t66 : List UInt8, ∃ t67 : List UInt8, ∃ t68 : List UInt8, ∃ n69 : Int, rowAt w41 (Addr.add a64 ((Int.toNat i40) * 5)) 0 [(Value.int .i64 n65), (strV t66), (strV t67), (strV t68), (Value.int .i64 n69)] ∧
        newS w41 (.cells ⟨[(Value.int .i64 (0 : Int)), (strV ([] : List UInt8)), (strV ([] : List UInt8)), (strV ([] : List UInt8)), (Value.int .i64 (0 : Int))]⟩ 44) fun r70 w71 =>
        canW w71 (⟨r70, 0, none⟩ : Addr) 5 ∧ ∀ w72 : World, w72 = setCells w71 (⟨r70, 0, none⟩ : Addr) 0 [(Value.int .i64 n65), (strV t66), (strV t67), (strV t68), (Value.int .i64 n69)] →
        ∃ t73 : List UInt8, World.cell? w72 (⟨r70, 1, none⟩ : Addr) = some (strV t73) ∧
        BIf (decide ((300 : Int) < (((List.length t73) : Nat) : Int))) (
          K (Value.bool true) w72) (
          ∃ t74 : List UInt8, World.cell? w72 (⟨r70, 2, none⟩ : Addr) = some (strV t74) ∧
          BIf (decide ((300 : Int) < (((List.length t74) : Nat) : Int))) (
            K (Value.bool true) w72) (
            ∃ t75 : List UInt8, World.cell? w72 (⟨r70, 3, none⟩ : Addr) = some (strV t75) ∧
            BIf (decide ((300 : Int) < (((List.length t75) : Nat) : Int))) (
              K (Value.bool true) w72) (
              inR .i64 (i40 + (1 : Int)) ∧
              (I38 ((i40 + (1 : Int))) w72 ∧ mu39 ((i40 + (1 : Int))) w72 < mu39 i40 w41))))) (
        K (Value.bool false) w41)))

theorem tidewaterlaw05_long_eq (e1 : Int) (e2 : Int) (e3 : Int) (e4 : Int) (e5 : Int) (e6 : Int) (e7 : Slc) (e8 : List UInt8) (e9 : Int) (e10 : Int) (e11 : Int) (e12 : Slc) (w : World) (K : Value → World → Prop) : tidewaterlaw05_long e1 e2 e3 e4 e5 e6 e7 e8 e9 e10 e11 e12 w K = denF Tryd.prog callB Tryd.f7 (.two .none (.cut [] [2, 5, 6, 7, 8, 9, 10, 11, 12, 13, 14, 15, 16, 17, 18, 19, 20] .none (.two (.two .none (.one (.loop [(24, (Sh.int .i64))] [2, 4, 25, 26, 27, 28, 29, 30, 31, 32, 33, 34, 35, 36, 37, 38, 39, 40, 41, 42, 43, 44] .none))) .none))) [(Value.agg ⟨[(Value.int .i64 e1), (Value.int .i64 e2), (Value.int .i64 e3), (Value.int .i64 e4), (Value.int .i64 e5), (Value.int .i64 e6), (Slc.v e7), (strV e8), (Value.int .i64 e9), (Value.int .i64 e10), (Value.int .i64 e11), (Slc.v e12)]⟩)] w K := by kernel_rfl
theorem tidewaterlaw05_long_ok (e1 : Int) (e2 : Int) (e3 : Int) (e4 : Int) (e5 : Int) (e6 : Int) (e7 : Slc) (e8 : List UInt8) (e9 : Int) (e10 : Int) (e11 : Int) (e12 : Slc) {w : World} {R : Ending → World → Prop} (h : tidewaterlaw05_long e1 e2 e3 e4 e5 e6 e7 e8 e9 e10 e11 e12 w fun v w' => R (.returned v) w') : Calls Tryd.prog fn_tidewaterlaw05_long ⟨[(Value.agg ⟨[(Value.int .i64 e1), (Value.int .i64 e2), (Value.int .i64 e3), (Value.int .i64 e4), (Value.int .i64 e5), (Value.int .i64 e6), (Slc.v e7), (strV e8), (Value.int .i64 e9), (Value.int .i64 e10), (Value.int .i64 e11), (Slc.v e12)]⟩)]⟩ w R :=
  calls_of_den callB_ok mixed Tryd.func7 (tidewaterlaw05_long_eq e1 e2 e3 e4 e5 e6 e7 e8 e9 e10 e11 e12 w _ ▸ h)

/-- tidewater/tidewaterlaw05.keys -/
def tidewaterlaw05_keys (e1 : Int) (e2 : Int) (e3 : Int) (e4 : Int) (e5 : Int) (e6 : Int) (e7 : Slc) (e8 : List UInt8) (e9 : Int) (e10 : Int) (e11 : Int) (e12 : Slc) (w : World) (K : Value → World → Prop) : Prop :=
  newS w (.cells ⟨[(Value.int .i64 e1), (Value.int .i64 e2), (Value.int .i64 e3), (Value.int .i64 e4), (Value.int .i64 e5), (Value.int .i64 e6), (Slc.v e7), (strV e8), (Value.int .i64 e9), (Value.int .i64 e10), (Value.int .i64 e11), (Slc.v e12)]⟩ 25) fun r13 w14 =>
  newS w14 (.cells ⟨[]⟩ 9) fun r15 w16 =>
  ∃ n17 : Int, World.cell? w16 (⟨r13, 0, none⟩ : Addr) = some (Value.int .i64 n17) ∧
  BIf (decide (n17 = (1 : Int))) (
    ∃ s18 : Slc, World.cell? w16 (⟨r13, 6, none⟩ : Addr) = some (Slc.v s18) ∧
    ∃ (I19 : (Slc) → (Int) → World → Prop) (mu20 : (Slc) → (Int) → World → Nat), I19 ((⟨(some (⟨r15, 0, none⟩ : Addr)), 0, 0⟩ : Slc)) ((0 : Int)) w16 ∧ (
    ∀ want21 : Slc, ∀ i22 : Int, ∀ w23 : World, I19 want21 i22 w23 → ∀ u24 u25 u26 u27 u28 u29 u30 u31 u32 u33 : Value,
      BIf (decide (i22 < ((s18.l : Nat) : Int))) (
        needSome s18.p fun a34 =>
        0 ≤ i22 ∧ i22 < ((s18.l : Nat) : Int) ∧
        ∃ n35 : Int, ∃ t36 : List UInt8, ∃ t37 : List UInt8, ∃ t38 : List UInt8, ∃ n39 : Int, rowAt w23 (Addr.add a34 ((Int.toNat i22) * 5)) 0 [(Value.int .i64 n35), (strV t36), (strV t37), (strV t38), (Value.int .i64 n39)] ∧
        newS w23 (.cells ⟨[(Value.int .i64 (0 : Int)), (strV ([] : List UInt8)), (strV ([] : List UInt8)), (strV ([] : List UInt8)), (Value.int .i64 (0 : Int))]⟩ 44) fun r40 w41 =>
        canW w41 (⟨r40, 0, none⟩ : Addr) 5 ∧ ∀ w42 : World, w42 = setCells w41 (⟨r40, 0, none⟩ : Addr) 0 [(Value.int .i64 n35), (strV t36), (strV t37), (strV t38), (Value.int .i64 n39)] →
        ∃ t43 : List UInt8, World.cell? w42 (⟨r40, 1, none⟩ : Addr) = some (strV t43) ∧
        newS w42 (.cells ⟨[(strV t43)]⟩ 9) fun r44 w45 =>
        appendS 1 9 [(strV ([] : List UInt8))] w45 want21 (.slc (⟨(some (⟨r44, 0, none⟩ : Addr)), 1, 1⟩ : Slc)) fun s46 w47 =>
        inR .i64 (i22 + (1 : Int)) ∧
        (I19 (s46) ((i22 + (1 : Int))) w47 ∧ mu20 (s46) ((i22 + (1 : Int))) w47 < mu20 want21 i22 w23)) (
        ∃ n48 : Int, ∃ n49 : Int, ∃ n50 : Int, ∃ n51 : Int, ∃ n52 : Int, ∃ n53 : Int, ∃ s54 : Slc, ∃ t55 : List UInt8, ∃ n56 : Int, ∃ n57 : Int, ∃ n58 : Int, ∃ s59 : Slc, rowAt w23 (⟨r13, 0, none⟩ : Addr) 0 [(Value.int .i64 n48), (Value.int .i64 n49), (Value.int .i64 n50), (Value.int .i64 n51), (Value.int .i64 n52), (Value.int .i64 n53), (Slc.v s54), (strV t55), (Value.int .i64 n56), (Value.int .i64 n57), (Value.int .i64 n58), (Slc.v s59)] ∧
        Calls Tryd.prog fn_entry_Keys ⟨[(Value.agg ⟨[(Value.int .i64 n48), (Value.int .i64 n49), (Value.int .i64 n50), (Value.int .i64 n51), (Value.int .i64 n52), (Value.int .i64 n53), (Slc.v s54), (strV t55), (Value.int .i64 n56), (Value.int .i64 n57), (Value.int .i64 n58), (Slc.v s59)]⟩)]⟩ w23 fun e60 w61 =>
        ∃ s62 : Slc, e60 = .returned (Slc.v s62) ∧
        Calls Tryd.prog fn_tidewaternum_SameTexts ⟨[(Slc.v s62), (Slc.v want21)]⟩ w61 fun e63 w64 =>
        ∃ b65 : Bool, e63 = .returned (Value.bool b65) ∧
        K (Value.bool b65) w64))) (
    BIf (decide (n17 = (3 : Int))) (
      ∃ t66 : List UInt8, World.cell? w16 (⟨r13, 7, none⟩ : Addr) = some (strV t66) ∧
      newS w16 (.cells ⟨[(strV t66)]⟩ 9) fun r67 w68 =>
      appendS 1 9 [(strV ([] : List UInt8))] w68 (⟨(some (⟨r15, 0, none⟩ : Addr)), 0, 0⟩ : Slc) (.slc (⟨(some (⟨r67, 0, none⟩ : Addr)), 1, 1⟩ : Slc)) fun s69 w70 =>
      ∃ n71 : Int, ∃ n72 : Int, ∃ n73 : Int, ∃ n74 : Int, ∃ n75 : Int, ∃ n76 : Int, ∃ s77 : Slc, ∃ t78 : List UInt8, ∃ n79 : Int, ∃ n80 : Int, ∃ n81 : Int, ∃ s82 : Slc, rowAt w70 (⟨r13, 0, none⟩ : Addr) 0 [(Value.int .i64 n71), (Value.int .i64 n72), (Value.int .i64 n73), (Value.int .i64 n74), (Value.int .i64 n75), (Value.int .i64 n76), (Slc.v s77), (strV t78), (Value.int .i64 n79), (Value.int .i64 n80), (Value.int .i64 n81), (Slc.v s82)] ∧
      Calls Tryd.prog fn_entry_Keys ⟨[(Value.agg ⟨[(Value.int .i64 n71), (Value.int .i64 n72), (Value.int .i64 n73), (Value.int .i64 n74), (Value.int .i64 n75), (Value.int .i64 n76), (Slc.v s77), (strV t78), (Value.int .i64 n79), (Value.int .i64 n80), (Value.int .i64 n81), (Slc.v s82)]⟩)]⟩ w70 fun e83 w84 =>
      ∃ s85 : Slc, e83 = .returned (Slc.v s85) ∧
      Calls Tryd.prog fn_tidewaternum_SameTexts ⟨[(Slc.v s85), (Slc.v s69)]⟩ w84 fun e86 w87 =>
      ∃ b88 : Bool, e86 = .returned (Value.bool b88) ∧
      K (Value.bool b88) w87) (
      ∃ n89 : Int, ∃ n90 : Int, ∃ n91 : Int, ∃ n92 : Int, ∃ n93 : Int, ∃ n94 : Int, ∃ s95 : Slc, ∃ t96 : List UInt8, ∃ n97 : Int, ∃ n98 : Int, ∃ n99 : Int, ∃ s100 : Slc, rowAt w16 (⟨r13, 0, none⟩ : Addr) 0 [(Value.int .i64 n89), (Value.int .i64 n90), (Value.int .i64 n91), (Value.int .i64 n92), (Value.int .i64 n93), (Value.int .i64 n94), (Slc.v s95), (strV t96), (Value.int .i64 n97), (Value.int .i64 n98), (Value.int .i64 n99), (Slc.v s100)] ∧
      Calls Tryd.prog fn_entry_Keys ⟨[(Value.agg ⟨[(Value.int .i64 n89), (Value.int .i64 n90), (Value.int .i64 n91), (Value.int .i64 n92), (Value.int .i64 n93), (Value.int .i64 n94), (Slc.v s95), (strV t96), (Value.int .i64 n97), (Value.int .i64 n98), (Value.int .i64 n99), (Slc.v s100)]⟩)]⟩ w16 fun e101 w102 =>
      ∃ s103 : Slc, e101 = .returned (Slc.v s103) ∧
      Calls Tryd.prog fn_tidewaternum_SameTexts ⟨[(Slc.v s103), (Slc.v (⟨(some (⟨r15, 0, none⟩ : Addr)), 0, 0⟩ : Slc))]⟩ w102 fun e104 w105 =>
      ∃ b106 : Bool, e104 = .returned (Value.bool b106) ∧
      K (Value.bool b106) w105))

theorem tidewaterlaw05_keys_eq (e1 : Int) (e2 : Int) (e3 : Int) (e4 : Int) (e5 : Int) (e6 : Int) (e7 : Slc) (e8 : List UInt8) (e9 : Int) (e10 : Int) (e11 : Int) (e12 : Slc) (w : World) (K : Value → World → Prop) : tidewaterlaw05_keys e1 e2 e3 e4 e5 e6 e7 e8 e9 e10 e11 e12 w K = denF Tryd.prog callB Tryd.f20 (.two .none (.two .none (.two (.two .none (.one (.two .none (.two (.two .none (.one (.loop [(3, Sh.slc), (14, (Sh.int .i64))] [5, 15, 16, 17, 18, 19, 20, 21, 22, 23] .none))) .none)))) .none))) [(Value.agg ⟨[(Value.int .i64 e1), (Value.int .i64 e2), (Value.int .i64 e3), (Value.int .i64 e4), (Value.int .i64 e5), (Value.int .i64 e6), (Slc.v e7), (strV e8), (Value.int .i64 e9), (Value.int .i64 e10), (Value.int .i64 e11), (Slc.v e12)]⟩)] w K := by kernel_rfl
theorem tidewaterlaw05_keys_ok (e1 : Int) (e2 : Int) (e3 : Int) (e4 : Int) (e5 : Int) (e6 : Int) (e7 : Slc) (e8 : List UInt8) (e9 : Int) (e10 : Int) (e11 : Int) (e12 : Slc) {w : World} {R : Ending → World → Prop} (h : tidewaterlaw05_keys e1 e2 e3 e4 e5 e6 e7 e8 e9 e10 e11 e12 w fun v w' => R (.returned v) w') : Calls Tryd.prog fn_tidewaterlaw05_keys ⟨[(Value.agg ⟨[(Value.int .i64 e1), (Value.int .i64 e2), (Value.int .i64 e3), (Value.int .i64 e4), (Value.int .i64 e5), (Value.int .i64 e6), (Slc.v e7), (strV e8), (Value.int .i64 e9), (Value.int .i64 e10), (Value.int .i64 e11), (Slc.v e12)]⟩)]⟩ w R :=
  calls_of_den callB_ok mixed Tryd.func20 (tidewaterlaw05_keys_eq e1 e2 e3 e4 e5 e6 e7 e8 e9 e10 e11 e12 w _ ▸ h)

/-- tidewater/tidewaterlaw05.EntryWrites -/
def tidewaterlaw05_EntryWrites (e1 : Int) (e2 : Int) (e3 : Int) (e4 : Int) (e5 : Int) (e6 : Int) (e7 : Slc) (e8 : List UInt8) (e9 : Int) (e10 : Int) (e11 : Int) (e12 : Slc) (w : World) (K : Value → World → Prop) : Prop :=
  newS w (.cells ⟨[(Value.int .i64 e1), (Value.int .i64 e2), (Value.int .i64 e3), (Value.int .i64 e4), (Value.int .i64 e5), (Value.int .i64 e6), (Slc.v e7), (strV e8), (Value.int .i64 e9), (Value.int .i64 e10), (Value.int .i64 e11), (Slc.v e12)]⟩ 25) fun r13 w14 =>
  Calls Tryd.prog fn_tidewaterlaw05_alive ⟨[]⟩ w14 fun e15 w16 =>
  ∃ b17 : Bool, e15 = .returned (Value.bool b17) ∧
  BIf (!b17) (
    K (Value.bool false) w16) (
    ∃ n18 : Int, ∃ n19 : Int, ∃ n20 : Int, ∃ n21 : Int, ∃ n22 : Int, ∃ n23 : Int, ∃ s24 : Slc, ∃ t25 : List UInt8, ∃ n26 : Int, ∃ n27 : Int, ∃ n28 : Int, ∃ s29 : Slc, rowAt w16 (⟨r13, 0, none⟩ : Addr) 0 [(Value.int .i64 n18), (Value.int .i64 n19), (Value.int .i64 n20), (Value.int .i64 n21), (Value.int .i64 n22), (Value.int .i64 n23), (Slc.v s24), (strV t25), (Value.int .i64 n26), (Value.int .i64 n27), (Value.int .i64 n28), (Slc.v s29)] ∧
    Calls Tryd.prog fn_tidewaterlaw05_long ⟨[(Value.agg ⟨[(Value.int .i64 n18), (Value.int .i64 n19), (Value.int .i64 n20), (Value.int .i64 n21), (Value.int .i64 n22), (Value.int .i64 n23), (Slc.v s24), (strV t25), (Value.int .i64 n26), (Value.int .i64 n27), (Value.int .i64 n28), (Slc.v s29)]⟩)]⟩ w16 fun e30 w31 =>
    ∃ b32 : Bool, e30 = .returned (Value.bool b32) ∧
    BIf b32 (
      K (Value.bool true) w31) (
      ∃ n33 : Int, ∃ n34 : Int, ∃ n35 : Int, ∃ n36 : Int, ∃ n37 : Int, ∃ n38 : Int, ∃ s39 : Slc, ∃ t40 : List UInt8, ∃ n41 : Int, ∃ n42 : Int, ∃ n43 : Int, ∃ s44 : Slc, rowAt w31 (⟨r13, 0, none⟩ : Addr) 0 [(Value.int .i64 n33), (Value.int .i64 n34), (Value.int .i64 n35), (Value.int .i64 n36), (Value.int .i64 n37), (Value.int .i64 n38), (Slc.v s39), (strV t40), (Value.int .i64 n41), (Value.int .i64 n42), (Value.int .i64 n43), (Slc.v s44)] ∧
      Calls Tryd.prog fn_tidewaterref05_Right ⟨[(Value.agg ⟨[(Value.int .i64 n33), (Value.int .i64 n34), (Value.int .i64 n35), (Value.int .i64 n36), (Value.int .i64 n37), (Value.int .i64 n38), (Slc.v s39), (strV t40), (Value.int .i64 n41), (Value.int .i64 n42), (Value.int .i64 n43), (Slc.v s44)]⟩)]⟩ w31 fun e45 w46 =>
      ∃ b47 : Bool, e45 = .returned (Value.bool b47) ∧
      ∃ n48 : Int, ∃ n49 : Int, ∃ n50 : Int, ∃ n51 : Int, ∃ n52 : Int, ∃ n53 : Int, ∃ s54 : Slc, ∃ t55 : List UInt8, ∃ n56 : Int, ∃ n57 : Int, ∃ n58 : Int, ∃ s59 : Slc, rowAt w46 (⟨r13, 0, none⟩ : Addr) 0 [(Value.int .i64 n48), (Value.int .i64 n49), (Value.int .i64 n50), (Value.int .i64 n51), (Value.int .i64 n52), (Value.int .i64 n53), (Slc.v s54), (strV t55), (Value.int .i64 n56), (Value.int .i64 n57), (Value.int .i64 n58), (Slc.v s59)] ∧
      Calls Tryd.prog fn_entry_Bytes ⟨[(Value.agg ⟨[(Value.int .i64 n48), (Value.int .i64 n49), (Value.int .i64 n50), (Value.int .i64 n51), (Value.int .i64 n52), (Value.int .i64 n53), (Slc.v s54), (strV t55), (Value.int .i64 n56), (Value.int .i64 n57), (Value.int .i64 n58), (Slc.v s59)]⟩)]⟩ w46 fun e60 w61 =>
      ∃ s62 : Slc, ∃ e63 : Value, e60 = .returned (Value.tuple ⟨[(Slc.v s62), e63]⟩) ∧
      ∃ n64 : Int, ∃ n65 : Int, ∃ n66 : Int, ∃ n67 : Int, ∃ n68 : Int, ∃ n69 : Int, ∃ s70 : Slc, ∃ t71 : List UInt8, ∃ n72 : Int, ∃ n73 : Int, ∃ n74 : Int, ∃ s75 : Slc, rowAt w61 (⟨r13, 0, none⟩ : Addr) 0 [(Value.int .i64 n64), (Value.int .i64 n65), (Value.int .i64 n66), (Value.int .i64 n67), (Value.int .i64 n68), (Value.int .i64 n69), (Slc.v s70), (strV t71), (Value.int .i64 n72), (Value.int .i64 n73), (Value.int .i64 n74), (Slc.v s75)] ∧
      Calls Tryd.prog fn_entry_Right ⟨[(Value.agg ⟨[(Value.int .i64 n64), (Value.int .i64 n65), (Value.int .i64 n66), (Value.int .i64 n67), (Value.int .i64 n68), (Value.int .i64 n69), (Slc.v s70), (strV t71), (Value.int .i64 n72), (Value.int .i64 n73), (Value.int .i64 n74), (Slc.v s75)]⟩)]⟩ w61 fun e76 w77 =>
      ∃ b78 : Bool, e76 = .returned (Value.bool b78) ∧
      BIf (!(b78 == b47)) (
        K (Value.bool false) w77) (
        BIf (!b47) (
          BIf (decide (((s62.l : Nat) : Int) = (0 : Int))) (
            Calls Tryd.prog fn_tidewaternum_Num ⟨[e63]⟩ w77 fun e79 w80 =>
            ∃ n81 : Int, e79 = .returned (Value.int .i64 n81) ∧
            BIf (decide (n81 = (4 : Int))) (
              ∃ n82 : Int, ∃ n83 : Int, ∃ n84 : Int, ∃ n85 : Int, ∃ n86 : Int, ∃ n87 : Int, ∃ s88 : Slc, ∃ t89 : List UInt8, ∃ n90 : Int, ∃ n91 : Int, ∃ n92 : Int, ∃ s93 : Slc, rowAt w80 (⟨r13, 0, none⟩ : Addr) 0 [(Value.int .i64 n82), (Value.int .i64 n83), (Value.int .i64 n84), (Value.int .i64 n85), (Value.int .i64 n86), (Value.int .i64 n87), (Slc.v s88), (strV t89), (Value.int .i64 n90), (Value.int .i64 n91), (Value.int .i64 n92), (Slc.v s93)] ∧
              Calls Tryd.prog fn_entry_Streams ⟨[(Value.agg ⟨[(Value.int .i64 n82), (Value.int .i64 n83), (Value.int .i64 n84), (Value.int .i64 n85), (Value.int .i64 n86), (Value.int .i64 n87), (Slc.v s88), (strV t89), (Value.int .i64 n90), (Value.int .i64 n91), (Value.int .i64 n92), (Slc.v s93)]⟩)]⟩ w80 fun e94 w95 =>
              ∃ s96 : Slc, e94 = .returned (Slc.v s96) ∧
              BIf (decide (((s96.l : Nat) : Int) = (0 : Int))) (
                ∃ n97 : Int, ∃ n98 : Int, ∃ n99 : Int, ∃ n100 : Int, ∃ n101 : Int, ∃ n102 : Int, ∃ s103 : Slc, ∃ t104 : List UInt8, ∃ n105 : Int, ∃ n106 : Int, ∃ n107 : Int, ∃ s108 : Slc, rowAt w95 (⟨r13, 0, none⟩ : Addr) 0 [(Value.int .i64 n97), (Value.int .i64 n98), (Value.int .i64 n99), (Value.int .i64 n100), (Value.int .i64 n101), (Value.int .i64 n102), (Slc.v s103), (strV t104), (Value.int .i64 n105), (Value.int .i64 n106), (Value.int .i64 n107), (Slc.v s108)] ∧
                Calls Tryd.prog fn_entry_Keys ⟨[(Value.agg ⟨[(Value.int .i64 n97), (Value.int .i64 n98), (Value.int .i64 n99), (Value.int .i64 n100), (Value.int .i64 n101), (Value.int .i64 n102), (Slc.v s103), (strV t104), (Value.int .i64 n105), (Value.int .i64 n106), (Value.int .i64 n107), (Slc.v s108)]⟩)]⟩ w95 fun e109 w110 =>
                ∃ s111 : Slc, e109 = .returned (Slc.v s111) ∧
                BIf (decide (((s111.l : Nat) : Int) = (0 : Int))) (
                  ∃ n112 : Int, ∃ n113 : Int, ∃ n114 : Int, ∃ n115 : Int, ∃ n116 : Int, ∃ n117 : Int, ∃ s118 : Slc, ∃ t119 : List UInt8, ∃ n120 : Int, ∃ n121 : Int, ∃ n122 : Int, ∃ s123 : Slc, rowAt w110 (⟨r13, 0, none⟩ : Addr) 0 [(Value.int .i64 n112), (Value.int .i64 n113), (Value.int .i64 n114), (Value.int .i64 n115), (Value.int .i64 n116), (Value.int .i64 n117), (Slc.v s118), (strV t119), (Value.int .i64 n120), (Value.int .i64 n121), (Value.int .i64 n122), (Slc.v s123)] ∧
                  ∃ n124 : Int, ∃ n125 : Int, ∃ n126 : Int, ∃ n127 : Int, ∃ n128 : Int, ∃ n129 : Int, ∃ s130 : Slc, ∃ t131 : List UInt8, ∃ n132 : Int, ∃ n133 : Int, ∃ n134 : Int, ∃ s135 : Slc, rowAt w110 (⟨r13, 0, none⟩ : Addr) 0 [(Value.int .i64 n124), (Value.int .i64 n125), (Value.int .i64 n126), (Value.int .i64 n127), (Value.int .i64 n128), (Value.int .i64 n129), (Slc.v s130), (strV t131), (Value.int .i64 n132), (Value.int .i64 n133), (Value.int .i64 n134), (Slc.v s135)] ∧
                  Calls Tryd.prog fn_entry_Same ⟨[(Value.agg ⟨[(Value.int .i64 n112), (Value.int .i64 n113), (Value.int .i64 n114), (Value.int .i64 n115), (Value.int .i64 n116), (Value.int .i64 n117), (Slc.v s118), (strV t119), (Value.int .i64 n120), (Value.int .i64 n121), (Value.int .i64 n122), (Slc.v s123)]⟩), (Value.agg ⟨[(Value.int .i64 n124), (Value.int .i64 n125), (Value.int .i64 n126), (Value.int .i64 n127), (Value.int .i64 n128), (Value.int .i64 n129), (Slc.v s130), (strV t131), (Value.int .i64 n132), (Value.int .i64 n133), (Value.int .i64 n134), (Slc.v s135)]⟩)]⟩ w110 fun e136 w137 =>
                  ∃ b138 : Bool, e136 = .returned (Value.bool b138) ∧
                  K (Value.bool (!b138)) w137) (
                  K (Value.bool false) w110)) (
                K (Value.bool false) w95)) (
              K (Value.bool false) w80)) (
            K (Value.bool false) w77)) (
          ∃ n139 : Int, ∃ n140 : Int, ∃ n141 : Int, ∃ n142 : Int, ∃ n143 : Int, ∃ n144 : Int, ∃ s145 : Slc, ∃ t146 : List UInt8, ∃ n147 : Int, ∃ n148 : Int, ∃ n149 : Int, ∃ s150 : Slc, rowAt w77 (⟨r13, 0, none⟩ : Addr) 0 [(Value.int .i64 n139), (Value.int .i64 n140), (Value.int .i64 n141), (Value.int .i64 n142), (Value.int .i64 n143), (Value.int .i64 n144), (Slc.v s145), (strV t146), (Value.int .i64 n147), (Value.int .i64 n148), (Value.int .i64 n149), (Slc.v s150)] ∧
          Calls Tryd.prog fn_tidewaterref05_Bytes ⟨[(Value.agg ⟨[(Value.int .i64 n139), (Value.int .i64 n140), (Value.int .i64 n141), (Value.int .i64 n142), (Value.int .i64 n143), (Value.int .i64 n144), (Slc.v s145), (strV t146), (Value.int .i64 n147), (Value.int .i64 n148), (Value.int .i64 n149), (Slc.v s150)]⟩)]⟩ w77 fun e151 w152 =>
          ∃ s153 : Slc, e151 = .returned (Slc.v s153) ∧
          ∃ J154 : World → Prop,
          (
            ∃ n155 : Int, ∃ n156 : Int, ∃ n157 : Int, ∃ n158 : Int, ∃ n159 : Int, ∃ n160 : Int, ∃ s161 : Slc, ∃ t162 : List UInt8, ∃ n163 : Int, ∃ n164 : Int, ∃ n165 : Int, ∃ s166 : Slc, rowAt (World.drew w152) (⟨r13, 0, none⟩ : Addr) 0 [(Value.int .i64 n155), (Value.int .i64 n156), (Value.int .i64 n157), (Value.int .i64 n158), (Value.int .i64 n159), (Value.int .i64 n160), (Slc.v s161), (strV t162), (Value.int .i64 n163), (Value.int .i64 n164), (Value.int .i64 n165), (Slc.v s166)] ∧
            ∃ n167 : Int, ∃ n168 : Int, ∃ n169 : Int, ∃ n170 : Int, ∃ n171 : Int, ∃ n172 : Int, ∃ s173 : Slc, ∃ t174 : List UInt8, ∃ n175 : Int, ∃ n176 : Int, ∃ n177 : Int, ∃ s178 : Slc, rowAt (World.drew w152) (⟨r13, 0, none⟩ : Addr) 0 [(Value.int .i64 n167), (Value.int .i64 n168), (Value.int .i64 n169), (Value.int .i64 n170), (Value.int .i64 n171), (Value.int .i64 n172), (Slc.v s173), (strV t174), (Value.int .i64 n175), (Value.int .i64 n176), (Value.int .i64 n177), (Slc.v s178)] ∧
            Calls Tryd.prog fn_entry_Streams ⟨[(Value.agg ⟨[(Value.int .i64 n155), (Value.int .i64 n156), (Value.int .i64 n157), (Value.int .i64 n158), (Value.int .i64 n159), (Value.int .i64 n160), (Slc.v s161), (strV t162), (Value.int .i64 n163), (Value.int .i64 n164), (Value.int .i64 n165), (Slc.v s166)]⟩)]⟩ (World.drew w152) fun e179 w180 =>
            ∃ s181 : Slc, e179 = .returned (Slc.v s181) ∧
            (∃ n182 : Int, ∃ n183 : Int, ∃ n184 : Int, ∃ n185 : Int, ∃ n186 : Int, ∃ n187 : Int, ∃ s188 : Slc, ∃ t189 : List UInt8, ∃ n190 : Int, ∃ n191 : Int, ∃ n192 : Int, ∃ s193 : Slc, rowAt w180 (⟨r13, 0, none⟩ : Addr) 0 [(Value.int .i64 n182), (Value.int .i64 n183), (Value.int .i64 n184), (Value.int .i64 n185), (Value.int .i64 n186), (Value.int .i64 n187), (Slc.v s188), (strV t189), (Value.int .i64 n190), (Value.int .i64 n191), (Value.int .i64 n192), (Slc.v s193)] ∧
            (Value.agg ⟨[(Value.int .i64 n182), (Value.int .i64 n183), (Value.int .i64 n184), (Value.int .i64 n185), (Value.int .i64 n186), (Value.int .i64 n187), (Slc.v s188), (strV t189), (Value.int .i64 n190), (Value.int .i64 n191), (Value.int .i64 n192), (Slc.v s193)]⟩) = (Value.agg ⟨[(Value.int .i64 n167), (Value.int .i64 n168), (Value.int .i64 n169), (Value.int .i64 n170), (Value.int .i64 n171), (Value.int .i64 n172), (Slc.v s173), (strV t174), (Value.int .i64 n175), (Value.int .i64 n176), (Value.int .i64 n177), (Slc.v s178)]⟩)) ∧
            Calls Tryd.prog fn_tidewaterref05_Streams ⟨[(Value.agg ⟨[(Value.int .i64 n167), (Value.int .i64 n168), (Value.int .i64 n169), (Value.int .i64 n170), (Value.int .i64 n171), (Value.int .i64 n172), (Slc.v s173), (strV t174), (Value.int .i64 n175), (Value.int .i64 n176), (Value.int .i64 n177), (Slc.v s178)]⟩)]⟩ w180 fun e194 w195 =>
            ∃ s196 : Slc, e194 = .returned (Slc.v s196) ∧
            Calls Tryd.prog fn_tidewaternum_SameInts ⟨[(Slc.v s181), (Slc.v s196)]⟩ w195 fun e197 w198 =>
            ∃ b199 : Bool, e197 = .returned (Value.bool b199) ∧
            BIf (!b199) (
              K (Value.bool false) w198) (
              ∃ n200 : Int, ∃ n201 : Int, ∃ n202 : Int, ∃ n203 : Int, ∃ n204 : Int, ∃ n205 : Int, ∃ s206 : Slc, ∃ t207 : List UInt8, ∃ n208 : Int, ∃ n209 : Int, ∃ n210 : Int, ∃ s211 : Slc, rowAt w198 (⟨r13, 0, none⟩ : Addr) 0 [(Value.int .i64 n200), (Value.int .i64 n201), (Value.int .i64 n202), (Value.int .i64 n203), (Value.int .i64 n204), (Value.int .i64 n205), (Slc.v s206), (strV t207), (Value.int .i64 n208), (Value.int .i64 n209), (Value.int .i64 n210), (Slc.v s211)] ∧
              Calls Tryd.prog fn_tidewaterlaw05_keys ⟨[(Value.agg ⟨[(Value.int .i64 n200), (Value.int .i64 n201), (Value.int .i64 n202), (Value.int .i64 n203), (Value.int .i64 n204), (Value.int .i64 n205), (Slc.v s206), (strV t207), (Value.int .i64 n208), (Value.int .i64 n209), (Value.int .i64 n210), (Slc.v s211)]⟩)]⟩ w198 fun e212 w213 =>
              ∃ b214 : Bool, e212 = .returned (Value.bool b214) ∧
              BIf (!b214) (
                K (Value.bool false) w213) (
                J154 w213))) ∧ (
          ∀ w215 : World, J154 w215 → ∀ u216 u217 u218 u219 u220 u221 u222 u223 u224 u225 u226 u227 : Value,
            BIf (decide ((1848 : Int) < ((s153.l : Nat) : Int))) (
              BIf (decide (((s62.l : Nat) : Int) = (0 : Int))) (
                Calls Tryd.prog fn_tidewaternum_Num ⟨[e63]⟩ w215 fun e228 w229 =>
                ∃ n230 : Int, e228 = .returned (Value.int .i64 n230) ∧
                BIf (decide (n230 = (3 : Int))) (
                  ∃ n231 : Int, ∃ n232 : Int, ∃ n233 : Int, ∃ n234 : Int, ∃ n235 : Int, ∃ n236 : Int, ∃ s237 : Slc, ∃ t238 : List UInt8, ∃ n239 : Int, ∃ n240 : Int, ∃ n241 : Int, ∃ s242 : Slc, rowAt w229 (⟨r13, 0, none⟩ : Addr) 0 [(Value.int .i64 n231), (Value.int .i64 n232), (Value.int .i64 n233), (Value.int .i64 n234), (Value.int .i64 n235), (Value.int .i64 n236), (Slc.v s237), (strV t238), (Value.int .i64 n239), (Value.int .i64 n240), (Value.int .i64 n241), (Slc.v s242)] ∧
                  ∃ n243 : Int, ∃ n244 : Int, ∃ n245 : Int, ∃ n246 : Int, ∃ n247 : Int, ∃ n248 : Int, ∃ s249 : Slc, ∃ t250 : List UInt8, ∃ n251 : Int, ∃ n252 : Int, ∃ n253 : Int, ∃ s254 : Slc, rowAt w229 (⟨r13, 0, none⟩ : Addr) 0 [(Value.int .i64 n243), (Value.int .i64 n244), (Value.int .i64 n245), (Value.int .i64 n246), (Value.int .i64 n247), (Value.int .i64 n248), (Slc.v s249), (strV t250), (Value.int .i64 n251), (Value.int .i64 n252), (Value.int .i64 n253), (Slc.v s254)] ∧
                  Calls Tryd.prog fn_entry_Same ⟨[(Value.agg ⟨[(Value.int .i64 n231), (Value.int .i64 n232), (Value.int .i64 n233), (Value.int .i64 n234), (Value.int .i64 n235), (Value.int .i64 n236), (Slc.v s237), (strV t238), (Value.int .i64 n239), (Value.int .i64 n240), (Value.int .i64 n241), (Slc.v s242)]⟩), (Value.agg ⟨[(Value.int .i64 n243), (Value.int .i64 n244), (Value.int .i64 n245), (Value.int .i64 n246), (Value.int .i64 n247), (Value.int .i64 n248), (Slc.v s249), (strV t250), (Value.int .i64 n251), (Value.int .i64 n252), (Value.int .i64 n253), (Slc.v s254)]⟩)]⟩ w229 fun e255 w256 =>
                  ∃ b257 : Bool, e255 = .returned (Value.bool b257) ∧
                  K (Value.bool (!b257)) w256) (
                  K (Value.bool false) w229)) (
                K (Value.bool false) w215)) (
              Calls Tryd.prog fn_entry_Read ⟨[(Slc.v s62)]⟩ w215 fun e258 w259 =>
              ∃ x260 : Int, ∃ x261 : Int, ∃ x262 : Int, ∃ x263 : Int, ∃ x264 : Int, ∃ x265 : Int, ∃ x266 : Slc, ∃ x267 : List UInt8, ∃ x268 : Int, ∃ x269 : Int, ∃ x270 : Int, ∃ x271 : Slc, ∃ e272 : Value, e258 = .returned (Value.tuple ⟨[(Value.agg ⟨[(Value.int .i64 x260), (Value.int .i64 x261), (Value.int .i64 x262), (Value.int .i64 x263), (Value.int .i64 x264), (Value.int .i64 x265), (Slc.v x266), (strV x267), (Value.int .i64 x268), (Value.int .i64 x269), (Value.int .i64 x270), (Slc.v x271)]⟩), e272]⟩) ∧
              newS w259 (.cells ⟨[(Value.int .i64 (0 : Int)), (Value.int .i64 (0 : Int)), (Value.int .i64 (0 : Int)), (Value.int .i64 (0 : Int)), (Value.int .i64 (0 : Int)), (Value.int .i64 (0 : Int)), (Slc.v (⟨none, 0, 0⟩ : Slc)), (strV ([] : List UInt8)), (Value.int .i64 (0 : Int)), (Value.int .i64 (0 : Int)), (Value.int .i64 (0 : Int)), (Slc.v (⟨none, 0, 0⟩ : Slc))]⟩ 25) fun r273 w274 =>
              canW w274 (⟨r273, 0, none⟩ : Addr) 12 ∧ ∀ w275 : World, w275 = setCells w274 (⟨r273, 0, none⟩ : Addr) 0 [(Value.int .i64 x260), (Value.int .i64 x261), (Value.int .i64 x262), (Value.int .i64 x263), (Value.int .i64 x264), (Value.int .i64 x265), (Slc.v x266), (strV x267), (Value.int .i64 x268), (Value.int .i64 x269), (Value.int .i64 x270), (Slc.v x271)] →
              isI e63 ∧
              BIf (isNilI e63) (
                ∃ t276 : List UInt8, bytesAt w275 s62 t276 ∧
                ∃ t277 : List UInt8, bytesAt w275 s153 t277 ∧
                BIf (decide (t276 = t277)) (
                  isI e272 ∧
                  BIf (isNilI e272) (
                    ∃ n278 : Int, ∃ n279 : Int, ∃ n280 : Int, ∃ n281 : Int, ∃ n282 : Int, ∃ n283 : Int, ∃ s284 : Slc, ∃ t285 : List UInt8, ∃ n286 : Int, ∃ n287 : Int, ∃ n288 : Int, ∃ s289 : Slc, rowAt w275 (⟨r273, 0, none⟩ : Addr) 0 [(Value.int .i64 n278), (Value.int .i64 n279), (Value.int .i64 n280), (Value.int .i64 n281), (Value.int .i64 n282), (Value.int .i64 n283), (Slc.v s284), (strV t285), (Value.int .i64 n286), (Value.int .i64 n287), (Value.int .i64 n288), (Slc.v s289)] ∧
                    ∃ n290 : Int, ∃ n291 : Int, ∃ n292 : Int, ∃ n293 : Int, ∃ n294 : Int, ∃ n295 : Int, ∃ s296 : Slc, ∃ t297 : List UInt8, ∃ n298 : Int, ∃ n299 : Int, ∃ n300 : Int, ∃ s301 : Slc, rowAt w275 (⟨r13, 0, none⟩ : Addr) 0 [(Value.int .i64 n290), (Value.int .i64 n291), (Value.int .i64 n292), (Value.int .i64 n293), (Value.int .i64 n294), (Value.int .i64 n295), (Slc.v s296), (strV t297), (Value.int .i64 n298), (Value.int .i64 n299), (Value.int .i64 n300), (Slc.v s301)] ∧
                    Calls Tryd.prog fn_tidewaterref05_Same ⟨[(Value.agg ⟨[(Value.int .i64 n278), (Value.int .i64 n279), (Value.int .i64 n280), (Value.int .i64 n281), (Value.int .i64 n282), (Value.int .i64 n283), (Slc.v s284), (strV t285), (Value.int .i64 n286), (Value.int .i64 n287), (Value.int .i64 n288), (Slc.v s289)]⟩), (Value.agg ⟨[(Value.int .i64 n290), (Value.int .i64 n291), (Value.int .i64 n292), (Value.int .i64 n293), (Value.int .i64 n294), (Value.int .i64 n295), (Slc.v s296), (strV t297), (Value.int .i64 n298), (Value.int .i64 n299), (Value.int .i64 n300), (Slc.v s301)]⟩)]⟩ w275 fun e302 w303 =>
                    ∃ b304 : Bool, e302 = .returned (Value.bool b304) ∧
                    BIf b304 (
                      ∃ n305 : Int, ∃ n306 : Int, ∃ n307 : Int, ∃ n308 : Int, ∃ n309 : Int, ∃ n310 : Int, ∃ s311 : Slc, ∃ t312 : List UInt8, ∃ n313 : Int, ∃ n314 : Int, ∃ n315 : Int, ∃ s316 : Slc, rowAt w303 (⟨r273, 0, none⟩ : Addr) 0 [(Value.int .i64 n305), (Value.int .i64 n306), (Value.int .i64 n307), (Value.int .i64 n308), (Value.int .i64 n309), (Value.int .i64 n310), (Slc.v s311), (strV t312), (Value.int .i64 n313), (Value.int .i64 n314), (Value.int .i64 n315), (Slc.v s316)] ∧
                      ∃ n317 : Int, ∃ n318 : Int, ∃ n319 : Int, ∃ n320 : Int, ∃ n321 : Int, ∃ n322 : Int, ∃ s323 : Slc, ∃ t324 : List UInt8, ∃ n325 : Int, ∃ n326 : Int, ∃ n327 : Int, ∃ s328 : Slc, rowAt w303 (⟨r13, 0, none⟩ : Addr) 0 [(Value.int .i64 n317), (Value.int .i64 n318), (Value.int .i64 n319), (Value.int .i64 n320), (Value.int .i64 n321), (Value.int .i64 n322), (Slc.v s323), (strV t324), (Value.int .i64 n325), (Value.int .i64 n326), (Value.int .i64 n327), (Slc.v s328)] ∧
                      Calls Tryd.prog fn_entry_Same ⟨[(Value.agg ⟨[(Value.int .i64 n305), (Value.int .i64 n306), (Value.int .i64 n307), (Value.int .i64 n308), (Value.int .i64 n309), (Value.int .i64 n310), (Slc.v s311), (strV t312), (Value.int .i64 n313), (Value.int .i64 n314), (Value.int .i64 n315), (Slc.v s316)]⟩), (Value.agg ⟨[(Value.int .i64 n317), (Value.int .i64 n318), (Value.int .i64 n319), (Value.int .i64 n320), (Value.int .i64 n321), (Value.int .i64 n322), (Slc.v s323), (strV t324), (Value.int .i64 n325), (Value.int .i64 n326), (Value.int .i64 n327), (Slc.v s328)]⟩)]⟩ w303 fun e329 w330 =>
                      ∃ b331 : Bool, e329 = .returned (Value.bool b331) ∧
                      K (Value.bool b331) w330) (
                      K (Value.bool false) w303)) (
                    K (Value.bool false) w275)) (
                  K (Value.bool false) w275)) (
                K (Value.bool false) w275)))))))

theorem tidewaterlaw05_EntryWrites_eq (e1 : Int) (e2 : Int) (e3 : Int) (e4 : Int) (e5 : Int) (e6 : Int) (e7 : Slc) (e8 : List UInt8) (e9 : Int) (e10 : Int) (e11 : Int) (e12 : Slc) (w : World) (K : Value → World → Prop) : tidewaterlaw05_EntryWrites e1 e2 e3 e4 e5 e6 e7 e8 e9 e10 e11 e12 w K = denF Tryd.prog callB Tryd.f5 (.two .none (.two .none (.two .none (.two .none (.two .none (.two .none (.two .none (.two .none (.cut [] [2, 54, 55, 56, 57, 58, 59, 60, 61, 62, 63, 64] .none .none))))))))) [(Value.agg ⟨[(Value.int .i64 e1), (Value.int .i64 e2), (Value.int .i64 e3), (Value.int .i64 e4), (Value.int .i64 e5), (Value.int .i64 e6), (Slc.v e7), (strV e8), (Value.int .i64 e9), (Value.int .i64 e10), (Value.int .i64 e11), (Slc.v e12)]⟩)] w K := by kernel_rfl
theorem tidewaterlaw05_EntryWrites_ok (e1 : Int) (e2 : Int) (e3 : Int) (e4 : Int) (e5 : Int) (e6 : Int) (e7 : Slc) (e8 : List UInt8) (e9 : Int) (e10 : Int) (e11 : Int) (e12 : Slc) {w : World} {R : Ending → World → Prop} (h : tidewaterlaw05_EntryWrites e1 e2 e3 e4 e5 e6 e7 e8 e9 e10 e11 e12 w fun v w' => R (.returned v) w') : Calls Tryd.prog fn_tidewaterlaw05_EntryWrites ⟨[(Value.agg ⟨[(Value.int .i64 e1), (Value.int .i64 e2), (Value.int .i64 e3), (Value.int .i64 e4), (Value.int .i64 e5), (Value.int .i64 e6), (Slc.v e7), (strV e8), (Value.int .i64 e9), (Value.int .i64 e10), (Value.int .i64 e11), (Slc.v e12)]⟩)]⟩ w R :=
  calls_of_den callB_ok mixed Tryd.func5 (tidewaterlaw05_EntryWrites_eq e1 e2 e3 e4 e5 e6 e7 e8 e9 e10 e11 e12 w _ ▸ h)

end Go.D
