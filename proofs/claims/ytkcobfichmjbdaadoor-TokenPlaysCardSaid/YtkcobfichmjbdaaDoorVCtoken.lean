/-
  WHAT IS PROVED: verification conditions of functions of this program, each with its soundness. No further conditions.
-/
import Derived.Test.YtkcobfichmjbdaaDoorBase
set_option linter.unusedSimpArgs false
set_option maxRecDepth 100000
set_option linter.unusedVariables false
namespace Go.D
open Go Go.Proofs
/-- tidewater/tidewaternum.In -/
def tidewaternum_In (list1 : Slc) (n2 : Int) (w : World) (K : Value → World → Prop) : Prop :=
  ∃ (I3 : (Int) → World → Prop) (mu4 : (Int) → World → Nat), I3 ((0 : Int)) w ∧ (
  ∀ i5 : Int, ∀ w6 : World, I3 i5 w6 → ∀ u7 u8 u9 u10 u11 u12 u13 u14 u15 : Value,
    BIf (decide (i5 < ((list1.l : Nat) : Int))) (
      needSome list1.p fun a16 =>
      0 ≤ i5 ∧ i5 < ((list1.l : Nat) : Int) ∧
      ∃ n17 : Int, World.cell? w6 (Addr.add a16 ((Int.toNat i5) * 1)) = some (Value.int .i64 n17) ∧
      BIf (decide (n17 = n2)) (
        K (Value.bool true) w6) (
        inR .i64 (i5 + (1 : Int)) ∧
        (I3 ((i5 + (1 : Int))) w6 ∧ mu4 ((i5 + (1 : Int))) w6 < mu4 i5 w6))) (
      K (Value.bool false) w6))

theorem tidewaternum_In_eq (list1 : Slc) (n2 : Int) (w : World) (K : Value → World → Prop) : tidewaternum_In list1 n2 w K = denF Tryd.prog callB Tryd.f47 (.two .none (.two (.two .none (.one (.loop [(9, (Sh.int .i64))] [4, 6, 10, 11, 12, 13, 14, 15, 16] .none))) .none)) [(Slc.v list1), (Value.int .i64 n2)] w K := by kernel_rfl
theorem tidewaternum_In_ok (list1 : Slc) (n2 : Int) {w : World} {R : Ending → World → Prop} (h : tidewaternum_In list1 n2 w fun v w' => R (.returned v) w') : Calls Tryd.prog fn_tidewaternum_In ⟨[(Slc.v list1), (Value.int .i64 n2)]⟩ w R :=
  calls_of_den callB_ok mixed Tryd.func47 (tidewaternum_In_eq list1 n2 w _ ▸ h)

/-- tidewater/token.stream -/
def token_stream (s1 : Int) (w : World) (K : Value → World → Prop) : Prop :=
  BIf (decide ((0 : Int) ≤ s1)) (
    K (Value.bool (decide (s1 ≤ (12 : Int)))) w) (
    K (Value.bool false) w)

theorem token_stream_eq (s1 : Int) (w : World) (K : Value → World → Prop) : token_stream s1 w K = denF Tryd.prog callB Tryd.f73 .none [(Value.int .i64 s1)] w K := by kernel_rfl
theorem token_stream_ok (s1 : Int) {w : World} {R : Ending → World → Prop} (h : token_stream s1 w fun v w' => R (.returned v) w') : Calls Tryd.prog fn_token_stream ⟨[(Value.int .i64 s1)]⟩ w R :=
  calls_of_den callB_ok mixed Tryd.func73 (token_stream_eq s1 w _ ▸ h)

/-- tidewater/token.falls -/
def token_falls (list1 : Slc) (next2 : Int) (w : World) (K : Value → World → Prop) : Prop :=
  ∃ (I3 : (Int) → (Int) → World → Prop) (mu4 : (Int) → (Int) → World → Nat), I3 (next2) ((0 : Int)) w ∧ (
  ∀ next5 : Int, ∀ i6 : Int, ∀ w7 : World, I3 next5 i6 w7 → ∀ u8 u9 u10 u11 u12 u13 u14 u15 u16 u17 u18 u19 u20 u21 : Value,
    BIf (decide (i6 < ((list1.l : Nat) : Int))) (
      needSome list1.p fun a22 =>
      0 ≤ i6 ∧ i6 < ((list1.l : Nat) : Int) ∧
      ∃ n23 : Int, World.cell? w7 (Addr.add a22 ((Int.toNat i6) * 1)) = some (Value.int .i64 n23) ∧
      BIf (decide (n23 < (0 : Int))) (
        K (Value.bool false) w7) (
        BIf (decide (next5 ≤ n23)) (
          K (Value.bool false) w7) (
          inR .i64 (i6 + (1 : Int)) ∧
          (I3 (n23) ((i6 + (1 : Int))) w7 ∧ mu4 (n23) ((i6 + (1 : Int))) w7 < mu4 next5 i6 w7)))) (
      K (Value.bool (decide (((list1.l : Nat) : Int) ≤ (4 : Int)))) w7))

theorem token_falls_eq (list1 : Slc) (next2 : Int) (w : World) (K : Value → World → Prop) : token_falls list1 next2 w K = denF Tryd.prog callB Tryd.f74 (.two .none (.two (.two .none (.one (.loop [(1, (Sh.int .i64)), (9, (Sh.int .i64))] [4, 6, 10, 11, 12, 13, 14, 15, 16, 17, 18, 19, 20, 21] .none))) .none)) [(Slc.v list1), (Value.int .i64 next2)] w K := by kernel_rfl
theorem token_falls_ok (list1 : Slc) (next2 : Int) {w : World} {R : Ending → World → Prop} (h : token_falls list1 next2 w fun v w' => R (.returned v) w') : Calls Tryd.prog fn_token_falls ⟨[(Slc.v list1), (Value.int .i64 next2)]⟩ w R :=
  calls_of_den callB_ok mixed Tryd.func74 (token_falls_eq list1 next2 w _ ▸ h)

/-- slices.Clone[[]int,int] -/
def slices_Clone_int (s1 : Slc) (w : World) (K : Value → World → Prop) : Prop :=
  BIf (Option.isNone (s1.p : Option Addr)) (
    K (Slc.v (⟨none, 0, 0⟩ : Slc)) w) (
    newS w (.cells ⟨[]⟩ 3) fun r2 w3 =>
    appendS 1 3 [(Value.int .i64 (0 : Int))] w3 (⟨(some (⟨r2, 0, none⟩ : Addr)), 0, 0⟩ : Slc) (.slc s1) fun s4 w5 =>
    K (Slc.v s4) w5)

theorem slices_Clone_int_eq (s1 : Slc) (w : World) (K : Value → World → Prop) : slices_Clone_int s1 w K = denF Tryd.prog callB Tryd.f75 .none [(Slc.v s1)] w K := by kernel_rfl
theorem slices_Clone_int_ok (s1 : Slc) {w : World} {R : Ending → World → Prop} (h : slices_Clone_int s1 w fun v w' => R (.returned v) w') : Calls Tryd.prog fn_slices_Clone_int ⟨[(Slc.v s1)]⟩ w R :=
  calls_of_den callB_ok mixed Tryd.func75 (slices_Clone_int_eq s1 w _ ▸ h)

/-- tidewater/token.rises -/
def token_rises (list1 : Slc) (w : World) (K : Value → World → Prop) : Prop :=
  ∃ (I2 : (Int) → (Int) → World → Prop) (mu3 : (Int) → (Int) → World → Nat), I2 ((-1 : Int)) ((0 : Int)) w ∧ (
  ∀ last4 : Int, ∀ i5 : Int, ∀ w6 : World, I2 last4 i5 w6 → ∀ u7 u8 u9 u10 u11 u12 u13 u14 u15 u16 u17 u18 u19 u20 u21 : Value,
    BIf (decide (i5 < ((list1.l : Nat) : Int))) (
      needSome list1.p fun a22 =>
      0 ≤ i5 ∧ i5 < ((list1.l : Nat) : Int) ∧
      ∃ n23 : Int, World.cell? w6 (Addr.add a22 ((Int.toNat i5) * 1)) = some (Value.int .i64 n23) ∧
      BIf (decide (n23 ≤ last4)) (
        K (Value.bool false) w6) (
        Calls Tryd.prog fn_token_stream ⟨[(Value.int .i64 n23)]⟩ w6 fun e24 w25 =>
        ∃ b26 : Bool, e24 = .returned (Value.bool b26) ∧
        BIf (!b26) (
          K (Value.bool false) w25) (
          inR .i64 (i5 + (1 : Int)) ∧
          (I2 (n23) ((i5 + (1 : Int))) w25 ∧ mu3 (n23) ((i5 + (1 : Int))) w25 < mu3 last4 i5 w6)))) (
      K (Value.bool true) w6))

theorem token_rises_eq (list1 : Slc) (w : World) (K : Value → World → Prop) : token_rises list1 w K = denF Tryd.prog callB Tryd.f76 (.two .none (.two .none (.two (.two .none (.one (.loop [(3, (Sh.int .i64)), (8, (Sh.int .i64))] [2, 5, 9, 10, 11, 12, 13, 14, 15, 16, 17, 18, 19, 20, 21] .none))) .none))) [(Slc.v list1)] w K := by kernel_rfl
theorem token_rises_ok (list1 : Slc) {w : World} {R : Ending → World → Prop} (h : token_rises list1 w fun v w' => R (.returned v) w') : Calls Tryd.prog fn_token_rises ⟨[(Slc.v list1)]⟩ w R :=
  calls_of_den callB_ok mixed Tryd.func76 (token_rises_eq list1 w _ ▸ h)

/-- tidewater/token.New -/
def token_New (epoch1 : Int) (next2 : Int) (backs3 : Slc) (w : World) (K : Value → World → Prop) : Prop :=
  ∃ J4 : World → Prop,
  (
    ∃ J5 : (Bool) → World → Prop,
    (
      BIf (decide (epoch1 < (0 : Int))) (
        J5 (true) w) (
        J5 ((decide ((1073741824 : Int) < epoch1))) w)) ∧ (
    ∀ x6 : Bool, ∀ w7 : World, J5 x6 w7 → ∀ u8 u9 u10 u11 u12 u13 : Value,
      BIf x6 (
        ∃ v14 : Value, World.cell? (World.drew w7) (⟨gl_ErrEpoch, 0, none⟩ : Addr) = some v14 ∧
        K (Value.tuple ⟨[(Value.pointer none), v14]⟩) (World.drew w7)) (
        BIf (decide (next2 < (0 : Int))) (
          ∃ v15 : Value, World.cell? (World.drew w7) (⟨gl_ErrRange, 0, none⟩ : Addr) = some v15 ∧
          K (Value.tuple ⟨[(Value.pointer none), v15]⟩) (World.drew w7)) (
          BIf (decide ((4096 : Int) < next2)) (
            ∃ v16 : Value, World.cell? (World.drew w7) (⟨gl_ErrRange, 0, none⟩ : Addr) = some v16 ∧
            K (Value.tuple ⟨[(Value.pointer none), v16]⟩) (World.drew w7)) (
            J4 w7))))) ∧ (
  ∀ w17 : World, J4 w17 → ∀ u18 u19 u20 u21 u22 u23 u24 u25 u26 u27 u28 u29 u30 u31 u32 u33 u34 u35 : Value,
    newS w17 (.cells ⟨[(Value.int .i64 epoch1), (Value.int .i64 next2), (Slc.v (⟨none, 0, 0⟩ : Slc)), (Slc.v (⟨none, 0, 0⟩ : Slc)), (Slc.v (⟨none, 0, 0⟩ : Slc)), (Slc.v (⟨none, 0, 0⟩ : Slc)), (Slc.v (⟨none, 0, 0⟩ : Slc)), (Slc.v (⟨none, 0, 0⟩ : Slc)), (Slc.v (⟨none, 0, 0⟩ : Slc)), (Slc.v (⟨none, 0, 0⟩ : Slc)), (Slc.v (⟨none, 0, 0⟩ : Slc)), (Slc.v (⟨none, 0, 0⟩ : Slc)), (Slc.v (⟨none, 0, 0⟩ : Slc)), (Slc.v (⟨none, 0, 0⟩ : Slc)), (Slc.v (⟨none, 0, 0⟩ : Slc))]⟩ 156) fun r36 w37 =>
    ∃ (I38 : (Slc) → (Int) → World → Prop) (mu39 : (Slc) → (Int) → World → Nat), I38 ((⟨none, 0, 0⟩ : Slc)) ((0 : Int)) w37 ∧ (
    ∀ streams40 : Slc, ∀ i41 : Int, ∀ w42 : World, I38 streams40 i41 w42 → ∀ u43 u44 u45 u46 u47 u48 u49 u50 u51 u52 u53 u54 u55 u56 u57 u58 u59 u60 u61 u62 u63 u64 u65 u66 u67 u68 u69 u70 u71 u72 u73 u74 u75 : Value,
      BIf (decide (i41 < ((backs3.l : Nat) : Int))) (
        needSome backs3.p fun a76 =>
        0 ≤ i41 ∧ i41 < ((backs3.l : Nat) : Int) ∧
        ∃ n77 : Int, ∃ s78 : Slc, rowAt w42 (Addr.add a76 ((Int.toNat i41) * 2)) 0 [(Value.int .i64 n77), (Slc.v s78)] ∧
        newS w42 (.cells ⟨[(Value.int .i64 (0 : Int)), (Slc.v (⟨none, 0, 0⟩ : Slc))]⟩ 104) fun r79 w80 =>
        canW w80 (⟨r79, 0, none⟩ : Addr) 2 ∧ ∀ w81 : World, w81 = setCells w80 (⟨r79, 0, none⟩ : Addr) 0 [(Value.int .i64 n77), (Slc.v s78)] →
        ∃ n82 : Int, World.cell? w81 (⟨r79, 0, none⟩ : Addr) = some (Value.int .i64 n82) ∧
        newS w81 (.cells ⟨[(Value.int .i64 n82)]⟩ 3) fun r83 w84 =>
        appendS 1 3 [(Value.int .i64 (0 : Int))] w84 streams40 (.slc (⟨(some (⟨r83, 0, none⟩ : Addr)), 1, 1⟩ : Slc)) fun s85 w86 =>
        ∃ n87 : Int, World.cell? w86 (⟨r79, 0, none⟩ : Addr) = some (Value.int .i64 n87) ∧
        Calls Tryd.prog fn_token_stream ⟨[(Value.int .i64 n87)]⟩ w86 fun e88 w89 =>
        ∃ b90 : Bool, e88 = .returned (Value.bool b90) ∧
        BIf (!b90) (
          ∃ v91 : Value, World.cell? (World.drew w89) (⟨gl_ErrForm, 0, none⟩ : Addr) = some v91 ∧
          K (Value.tuple ⟨[(Value.pointer none), v91]⟩) (World.drew w89)) (
          ∃ s92 : Slc, World.cell? w89 (⟨r79, 1, none⟩ : Addr) = some (Slc.v s92) ∧
          Calls Tryd.prog fn_token_falls ⟨[(Slc.v s92), (Value.int .i64 next2)]⟩ w89 fun e93 w94 =>
          ∃ b95 : Bool, e93 = .returned (Value.bool b95) ∧
          BIf (!b95) (
            ∃ v96 : Value, World.cell? (World.drew w94) (⟨gl_ErrForm, 0, none⟩ : Addr) = some v96 ∧
            K (Value.tuple ⟨[(Value.pointer none), v96]⟩) (World.drew w94)) (
            ∃ n97 : Int, World.cell? (World.drew w94) (⟨r79, 0, none⟩ : Addr) = some (Value.int .i64 n97) ∧
            ∃ s98 : Slc, World.cell? (World.drew w94) (⟨r79, 1, none⟩ : Addr) = some (Slc.v s98) ∧
            Calls Tryd.prog fn_slices_Clone_int ⟨[(Slc.v s98)]⟩ (World.drew w94) fun e99 w100 =>
            ∃ s101 : Slc, e99 = .returned (Slc.v s101) ∧
            (∃ n102 : Int, World.cell? w100 (⟨r79, 0, none⟩ : Addr) = some (Value.int .i64 n102) ∧
            (Value.int .i64 n102) = (Value.int .i64 n97)) ∧
            0 ≤ n97 ∧ n97 < ((13 : Nat) : Int) ∧
            canW w100 (Addr.add (⟨r36, 2, none⟩ : Addr) ((Int.toNat n97) * 1)) 1 ∧ ∀ w103 : World, w103 = World.setCell w100 (Addr.add (⟨r36, 2, none⟩ : Addr) ((Int.toNat n97) * 1)) (Slc.v s101) →
            inR .i64 (i41 + (1 : Int)) ∧
            (I38 (s85) ((i41 + (1 : Int))) w103 ∧ mu39 (s85) ((i41 + (1 : Int))) w103 < mu39 streams40 i41 w42)))) (
        Calls Tryd.prog fn_token_rises ⟨[(Slc.v streams40)]⟩ w42 fun e104 w105 =>
        ∃ b106 : Bool, e104 = .returned (Value.bool b106) ∧
        BIf (!b106) (
          ∃ v107 : Value, World.cell? (World.drew w105) (⟨gl_ErrForm, 0, none⟩ : Addr) = some v107 ∧
          K (Value.tuple ⟨[(Value.pointer none), v107]⟩) (World.drew w105)) (
          K (Value.tuple ⟨[(Value.pointer (some (⟨r36, 0, none⟩ : Addr))), Value.nilIface]⟩) w105))))

theorem token_New_eq (epoch1 : Int) (next2 : Int) (backs3 : Slc) (w : World) (K : Value → World → Prop) : token_New epoch1 next2 backs3 w K = denF Tryd.prog callB Tryd.f41 (.two .none (.cut [] [6, 7, 12, 13, 14, 15, 16, 17, 18, 19, 20, 21, 22, 23, 24, 25, 26, 27] (.one (.cut [(12, Sh.bool)] [13, 14, 15, 16, 17, 18] .none .none)) (.two .none (.two .none (.two (.two .none (.one (.loop [(9, Sh.slc), (34, (Sh.int .i64))] [6, 7, 11, 35, 36, 37, 38, 39, 40, 41, 42, 43, 44, 45, 46, 47, 48, 49, 50, 51, 52, 53, 54, 55, 56, 57, 58, 59, 60, 61, 62, 63, 64] .none))) .none))))) [(Value.int .i64 epoch1), (Value.int .i64 next2), (Slc.v backs3)] w K := by kernel_rfl
theorem token_New_ok (epoch1 : Int) (next2 : Int) (backs3 : Slc) {w : World} {R : Ending → World → Prop} (h : token_New epoch1 next2 backs3 w fun v w' => R (.returned v) w') : Calls Tryd.prog fn_token_New ⟨[(Value.int .i64 epoch1), (Value.int .i64 next2), (Slc.v backs3)]⟩ w R :=
  calls_of_den callB_ok mixed Tryd.func41 (token_New_eq epoch1 next2 backs3 w _ ▸ h)

/-- (*tidewater/token.Sequencer).Newest -/
def token_Sequencer_Newest (s1 : Option Addr) (epoch2 : Int) (x3 : Int) (w : World) (K : Value → World → Prop) : Prop :=
  needSome s1 fun a4 =>
  ∃ n5 : Int, World.cell? w a4 = some (Value.int .i64 n5) ∧
  BIf (!decide (epoch2 = n5)) (
    ∃ v6 : Value, World.cell? (World.drew w) (⟨gl_ErrSealed, 0, none⟩ : Addr) = some v6 ∧
    K (Value.tuple ⟨[(Slc.v (⟨none, 0, 0⟩ : Slc)), v6]⟩) (World.drew w)) (
    Calls Tryd.prog fn_token_stream ⟨[(Value.int .i64 x3)]⟩ w fun e7 w8 =>
    ∃ b9 : Bool, e7 = .returned (Value.bool b9) ∧
    BIf (!b9) (
      ∃ v10 : Value, World.cell? (World.drew w8) (⟨gl_ErrRange, 0, none⟩ : Addr) = some v10 ∧
      K (Value.tuple ⟨[(Slc.v (⟨none, 0, 0⟩ : Slc)), v10]⟩) (World.drew w8)) (
      needSome s1 fun a11 =>
      0 ≤ x3 ∧ x3 < ((13 : Nat) : Int) ∧
      ∃ s12 : Slc, World.cell? w8 (Addr.add (a11.add 2) ((Int.toNat x3) * 1)) = some (Slc.v s12) ∧
      Calls Tryd.prog fn_slices_Clone_int ⟨[(Slc.v s12)]⟩ w8 fun e13 w14 =>
      ∃ s15 : Slc, e13 = .returned (Slc.v s15) ∧
      K (Value.tuple ⟨[(Slc.v s15), Value.nilIface]⟩) w14))

theorem token_Sequencer_Newest_eq (s1 : Option Addr) (epoch2 : Int) (x3 : Int) (w : World) (K : Value → World → Prop) : token_Sequencer_Newest s1 epoch2 x3 w K = denF Tryd.prog callB Tryd.f43 .none [(Value.pointer s1), (Value.int .i64 epoch2), (Value.int .i64 x3)] w K := by kernel_rfl
theorem token_Sequencer_Newest_ok (s1 : Option Addr) (epoch2 : Int) (x3 : Int) {w : World} {R : Ending → World → Prop} (h : token_Sequencer_Newest s1 epoch2 x3 w fun v w' => R (.returned v) w') : Calls Tryd.prog fn_token_Sequencer_Newest ⟨[(Value.pointer s1), (Value.int .i64 epoch2), (Value.int .i64 x3)]⟩ w R :=
  calls_of_den callB_ok mixed Tryd.func43 (token_Sequencer_Newest_eq s1 epoch2 x3 w _ ▸ h)

/-- (*tidewater/token.Sequencer).Next -/
def token_Sequencer_Next (s1 : Option Addr) (epoch2 : Int) (w : World) (K : Value → World → Prop) : Prop :=
  needSome s1 fun a3 =>
  ∃ n4 : Int, World.cell? w a3 = some (Value.int .i64 n4) ∧
  BIf (!decide (epoch2 = n4)) (
    ∃ v5 : Value, World.cell? (World.drew w) (⟨gl_ErrSealed, 0, none⟩ : Addr) = some v5 ∧
    K (Value.tuple ⟨[(Value.int .i64 (0 : Int)), v5]⟩) (World.drew w)) (
    needSome s1 fun a6 =>
    ∃ n7 : Int, World.cell? w (a6.add 1) = some (Value.int .i64 n7) ∧
    K (Value.tuple ⟨[(Value.int .i64 n7), Value.nilIface]⟩) w)

theorem token_Sequencer_Next_eq (s1 : Option Addr) (epoch2 : Int) (w : World) (K : Value → World → Prop) : token_Sequencer_Next s1 epoch2 w K = denF Tryd.prog callB Tryd.f44 .none [(Value.pointer s1), (Value.int .i64 epoch2)] w K := by kernel_rfl
theorem token_Sequencer_Next_ok (s1 : Option Addr) (epoch2 : Int) {w : World} {R : Ending → World → Prop} (h : token_Sequencer_Next s1 epoch2 w fun v w' => R (.returned v) w') : Calls Tryd.prog fn_token_Sequencer_Next ⟨[(Value.pointer s1), (Value.int .i64 epoch2)]⟩ w R :=
  calls_of_den callB_ok mixed Tryd.func44 (token_Sequencer_Next_eq s1 epoch2 w _ ▸ h)

/-- (*tidewater/token.Sequencer).Take -/
def token_Sequencer_Take (s1 : Option Addr) (epoch2 : Int) (streams3 : Slc) (w : World) (K : Value → World → Prop) : Prop :=
  ∃ J4 : World → Prop,
  (
    needSome s1 fun a5 =>
    ∃ n6 : Int, World.cell? w a5 = some (Value.int .i64 n6) ∧
    BIf (!decide (epoch2 = n6)) (
      ∃ v7 : Value, World.cell? (World.drew w) (⟨gl_ErrSealed, 0, none⟩ : Addr) = some v7 ∧
      K (Value.tuple ⟨[(Value.int .i64 (0 : Int)), (Slc.v (⟨none, 0, 0⟩ : Slc)), v7]⟩) (World.drew w)) (
      ∃ J8 : (Bool) → World → Prop,
      (
        BIf (decide (((streams3.l : Nat) : Int) < (1 : Int))) (
          J8 (true) w) (
          BIf (decide ((3 : Int) < ((streams3.l : Nat) : Int))) (
            J8 (true) w) (
            Calls Tryd.prog fn_token_rises ⟨[(Slc.v streams3)]⟩ w fun e9 w10 =>
            ∃ b11 : Bool, e9 = .returned (Value.bool b11) ∧
            J8 ((!b11)) w10))) ∧ (
      ∀ x12 : Bool, ∀ w13 : World, J8 x12 w13 → ∀ u14 u15 u16 u17 u18 u19 u20 u21 u22 u23 u24 u25 u26 : Value,
        BIf x12 (
          ∃ v27 : Value, World.cell? (World.drew w13) (⟨gl_ErrForm, 0, none⟩ : Addr) = some v27 ∧
          K (Value.tuple ⟨[(Value.int .i64 (0 : Int)), (Slc.v (⟨none, 0, 0⟩ : Slc)), v27]⟩) (World.drew w13)) (
          needSome s1 fun a28 =>
          ∃ n29 : Int, World.cell? w13 (a28.add 1) = some (Value.int .i64 n29) ∧
          BIf (decide (n29 = (4096 : Int))) (
            ∃ v30 : Value, World.cell? (World.drew w13) (⟨gl_ErrFull, 0, none⟩ : Addr) = some v30 ∧
            K (Value.tuple ⟨[(Value.int .i64 (0 : Int)), (Slc.v (⟨none, 0, 0⟩ : Slc)), v30]⟩) (World.drew w13)) (
            J4 w13))))) ∧ (
  ∀ w31 : World, J4 w31 → ∀ u32 u33 u34 u35 u36 u37 u38 u39 u40 u41 u42 u43 u44 u45 u46 u47 u48 u49 u50 u51 u52 u53 u54 u55 u56 u57 u58 u59 u60 u61 u62 u63 u64 : Value,
    needSome s1 fun a65 =>
    ∃ n66 : Int, World.cell? w31 (a65.add 1) = some (Value.int .i64 n66) ∧
    ∃ (I67 : (Slc) → (Int) → World → Prop) (mu68 : (Slc) → (Int) → World → Nat), I67 ((⟨none, 0, 0⟩ : Slc)) ((0 : Int)) w31 ∧ (
    ∀ out69 : Slc, ∀ i70 : Int, ∀ w71 : World, I67 out69 i70 w71 → ∀ u72 u73 u74 u75 u76 u77 u78 u79 u80 u81 u82 u83 u84 u85 u86 u87 u88 u89 u90 u91 u92 u93 u94 u95 u96 u97 u98 u99 u100 u101 u102 u103 u104 u105 : Value,
      BIf (decide (i70 < ((streams3.l : Nat) : Int))) (
        needSome streams3.p fun a106 =>
        0 ≤ i70 ∧ i70 < ((streams3.l : Nat) : Int) ∧
        ∃ n107 : Int, World.cell? w71 (Addr.add a106 ((Int.toNat i70) * 1)) = some (Value.int .i64 n107) ∧
        needSome s1 fun a108 =>
        0 ≤ n107 ∧ n107 < ((13 : Nat) : Int) ∧
        ∃ s109 : Slc, World.cell? w71 (Addr.add (a108.add 2) ((Int.toNat n107) * 1)) = some (Slc.v s109) ∧
        Calls Tryd.prog fn_slices_Clone_int ⟨[(Slc.v s109)]⟩ w71 fun e110 w111 =>
        ∃ s112 : Slc, e110 = .returned (Slc.v s112) ∧
        newS w111 (.cells ⟨[(Value.int .i64 n107), (Slc.v s112)]⟩ 104) fun r113 w114 =>
        appendS 2 104 [(Value.int .i64 (0 : Int)), (Slc.v (⟨none, 0, 0⟩ : Slc))] w114 out69 (.slc (⟨(some (⟨r113, 0, none⟩ : Addr)), 1, 1⟩ : Slc)) fun s115 w116 =>
        newS w116 (.cells ⟨[(Value.int .i64 n66)]⟩ 3) fun r117 w118 =>
        appendS 1 3 [(Value.int .i64 (0 : Int))] w118 (⟨(some (⟨r117, 0, none⟩ : Addr)), 1, 1⟩ : Slc) (.slc s109) fun s119 w120 =>
        0 ≤ (0 : Int) ∧ (0 : Int) ≤ (if (4 : Int) < ((s119.l : Nat) : Int) then (4 : Int) else ((s119.l : Nat) : Int)) ∧ (if (4 : Int) < ((s119.l : Nat) : Int) then (4 : Int) else ((s119.l : Nat) : Int)) ≤ ((s119.c : Nat) : Int) ∧ ((s119.c : Nat) : Int) ≤ ((s119.c : Nat) : Int) ∧
        needSome s1 fun a122 =>
        0 ≤ n107 ∧ n107 < ((13 : Nat) : Int) ∧
        canW (World.drew w120) (Addr.add (a122.add 2) ((Int.toNat n107) * 1)) 1 ∧ ∀ w123 : World, w123 = World.setCell (World.drew w120) (Addr.add (a122.add 2) ((Int.toNat n107) * 1)) (Slc.v (Slc.sub s119 1 0 (Int.toNat (if (4 : Int) < ((s119.l : Nat) : Int) then (4 : Int) else ((s119.l : Nat) : Int))) s119.c)) →
        inR .i64 (i70 + (1 : Int)) ∧
        (I67 (s115) ((i70 + (1 : Int))) w123 ∧ mu68 (s115) ((i70 + (1 : Int))) w123 < mu68 out69 i70 w71)) (
        needSome s1 fun a124 =>
        ∃ n125 : Int, World.cell? w71 (a124.add 1) = some (Value.int .i64 n125) ∧
        inR .i64 (n125 + (1 : Int)) ∧
        needSome s1 fun a126 =>
        canW w71 (a126.add 1) 1 ∧ ∀ w127 : World, w127 = World.setCell w71 (a126.add 1) (Value.int .i64 (n125 + (1 : Int))) →
        K (Value.tuple ⟨[(Value.int .i64 n66), (Slc.v out69), Value.nilIface]⟩) w127)))

theorem token_Sequencer_Take_eq (s1 : Option Addr) (epoch2 : Int) (streams3 : Slc) (w : World) (K : Value → World → Prop) : token_Sequencer_Take s1 epoch2 streams3 w K = denF Tryd.prog callB Tryd.f45 (.two .none (.cut [] [6, 7, 8, 15, 16, 17, 18, 19, 20, 21, 22, 23, 24, 25, 26, 27, 28, 29, 30, 31, 32, 33, 34, 35, 36, 37, 38, 39, 40, 41, 42, 43, 44] (.one (.two .none (.two .none (.cut [(23, Sh.bool)] [24, 25, 26, 27, 28, 29, 30, 31, 32, 33, 34, 35, 36] .none .none)))) (.two .none (.two .none (.two (.two .none (.one (.loop [(10, Sh.slc), (51, (Sh.int .i64))] [12, 13, 14, 52, 53, 54, 55, 56, 57, 58, 59, 60, 61, 62, 63, 64, 65, 66, 67, 68, 69, 70, 71, 72, 73, 74, 75, 76, 77, 78, 79, 80, 81, 82] .none))) .none))))) [(Value.pointer s1), (Value.int .i64 epoch2), (Slc.v streams3)] w K := by kernel_rfl
theorem token_Sequencer_Take_ok (s1 : Option Addr) (epoch2 : Int) (streams3 : Slc) {w : World} {R : Ending → World → Prop} (h : token_Sequencer_Take s1 epoch2 streams3 w fun v w' => R (.returned v) w') : Calls Tryd.prog fn_token_Sequencer_Take ⟨[(Value.pointer s1), (Value.int .i64 epoch2), (Slc.v streams3)]⟩ w R :=
  calls_of_den callB_ok mixed Tryd.func45 (token_Sequencer_Take_eq s1 epoch2 streams3 w _ ▸ h)

/-- (*tidewater/token.Sequencer).Epoch -/
def token_Sequencer_Epoch (s1 : Option Addr) (w : World) (K : Value → World → Prop) : Prop :=
  needSome s1 fun a2 =>
  ∃ n3 : Int, World.cell? w a2 = some (Value.int .i64 n3) ∧
  K (Value.int .i64 n3) w

theorem token_Sequencer_Epoch_eq (s1 : Option Addr) (w : World) (K : Value → World → Prop) : token_Sequencer_Epoch s1 w K = denF Tryd.prog callB Tryd.f79 .none [(Value.pointer s1)] w K := by kernel_rfl
theorem token_Sequencer_Epoch_ok (s1 : Option Addr) {w : World} {R : Ending → World → Prop} (h : token_Sequencer_Epoch s1 w fun v w' => R (.returned v) w') : Calls Tryd.prog fn_token_Sequencer_Epoch ⟨[(Value.pointer s1)]⟩ w R :=
  calls_of_den callB_ok mixed Tryd.func79 (token_Sequencer_Epoch_eq s1 w _ ▸ h)

/-- tidewater/tidewaterlaw13.alive -/
def tidewaterlaw13_alive  (w : World) (K : Value → World → Prop) : Prop :=
  Calls Tryd.prog fn_token_New ⟨[(Value.int .i64 (0 : Int)), (Value.int .i64 (0 : Int)), (Slc.v (⟨none, 0, 0⟩ : Slc))]⟩ w fun e1 w2 =>
  ∃ p3 : Option Addr, ∃ e4 : Value, e1 = .returned (Value.tuple ⟨[(Value.pointer p3), e4]⟩) ∧
  ∃ J5 : World → Prop,
  (
    isI e4 ∧
    BIf (!isNilI e4) (
      K (Value.bool false) w2) (
      BIf (Option.isNone (p3 : Option Addr)) (
        K (Value.bool false) w2) (
        J5 w2))) ∧ (
  ∀ w6 : World, J5 w6 → ∀ u7 u8 u9 u10 u11 u12 u13 : Value,
    newS w6 (.cells ⟨[(Value.int .i64 (1 : Int))]⟩ 3) fun r14 w15 =>
    Calls Tryd.prog fn_token_Sequencer_Take ⟨[(Value.pointer p3), (Value.int .i64 (0 : Int)), (Slc.v (⟨(some (⟨r14, 0, none⟩ : Addr)), 1, 1⟩ : Slc))]⟩ w15 fun e16 w17 =>
    ∃ n18 : Int, ∃ s19 : Slc, ∃ e20 : Value, e16 = .returned (Value.tuple ⟨[(Value.int .i64 n18), (Slc.v s19), e20]⟩) ∧
    isI e20 ∧
    BIf (isNilI e20) (
      BIf (decide (n18 = (0 : Int))) (
        BIf (decide (((s19.l : Nat) : Int) = (1 : Int))) (
          needSome s19.p fun a21 =>
          0 ≤ (0 : Int) ∧ (0 : Int) < ((s19.l : Nat) : Int) ∧
          ∃ s22 : Slc, World.cell? w17 (a21.add 1) = some (Slc.v s22) ∧
          K (Value.bool (decide (((s22.l : Nat) : Int) = (0 : Int)))) w17) (
          K (Value.bool false) w17)) (
        K (Value.bool false) w17)) (
      K (Value.bool false) w17))

theorem tidewaterlaw13_alive_eq  (w : World) (K : Value → World → Prop) : tidewaterlaw13_alive  w K = denF Tryd.prog callB Tryd.f40 (.two .none (.two .none (.cut [] [0, 9, 10, 11, 12, 13, 14] .none .none))) [] w K := by kernel_rfl
theorem tidewaterlaw13_alive_ok  {w : World} {R : Ending → World → Prop} (h : tidewaterlaw13_alive  w fun v w' => R (.returned v) w') : Calls Tryd.prog fn_tidewaterlaw13_alive ⟨[]⟩ w R :=
  calls_of_den callB_ok mixed Tryd.func40 (tidewaterlaw13_alive_eq  w _ ▸ h)

/-- tidewater/tidewaterlaw13.TokenOnce -/
def tidewaterlaw13_TokenOnce (next1 : Int) (asks2 : Slc) (w : World) (K : Value → World → Prop) : Prop :=
  Calls Tryd.prog fn_tidewaterlaw13_alive ⟨[]⟩ w fun e3 w4 =>
  ∃ b5 : Bool, e3 = .returned (Value.bool b5) ∧
  BIf (!b5) (
    K (Value.bool false) w4) (
    BIf (decide ((60 : Int) < ((asks2.l : Nat) : Int))) (
      K (Value.bool true) w4) (
      0 ≤ (IntKind.wrap .u64 next1) ∧ 0 < (4097 : Int) ∧
      Calls Tryd.prog fn_token_New ⟨[(Value.int .i64 (3 : Int)), (Value.int .i64 (IntKind.wrap .i64 ((IntKind.wrap .u64 next1) % (4097 : Int)))), (Slc.v (⟨none, 0, 0⟩ : Slc))]⟩ w4 fun e6 w7 =>
      ∃ p8 : Option Addr, ∃ e9 : Value, e6 = .returned (Value.tuple ⟨[(Value.pointer p8), e9]⟩) ∧
      ∃ J10 : World → Prop,
      (
        isI e9 ∧
        BIf (!isNilI e9) (
          K (Value.bool false) w7) (
          BIf (Option.isNone (p8 : Option Addr)) (
            K (Value.bool false) w7) (
            J10 w7))) ∧ (
      ∀ w11 : World, J10 w11 → ∀ u12 u13 u14 u15 u16 u17 u18 : Value,
        newS w11 (.map #[] 0) fun r19 w20 =>
        ∃ (I21 : (Int) → (Int) → World → Prop) (mu22 : (Int) → (Int) → World → Nat), I21 ((IntKind.wrap .i64 ((IntKind.wrap .u64 next1) % (4097 : Int)))) ((0 : Int)) w20 ∧ (
        ∀ next23 : Int, ∀ i24 : Int, ∀ w25 : World, I21 next23 i24 w25 → ∀ u26 u27 u28 u29 u30 u31 u32 u33 u34 u35 u36 u37 u38 u39 u40 u41 u42 u43 u44 u45 u46 u47 u48 u49 u50 u51 u52 u53 u54 u55 u56 u57 u58 u59 u60 u61 u62 u63 u64 u65 u66 u67 u68 u69 u70 u71 u72 u73 u74 u75 u76 u77 u78 u79 u80 u81 u82 u83 u84 u85 u86 u87 u88 u89 u90 u91 u92 u93 u94 u95 u96 u97 u98 u99 u100 u101 u102 u103 u104 u105 u106 u107 u108 u109 u110 u111 u112 u113 : Value,
          BIf (decide (i24 < ((asks2.l : Nat) : Int))) (
            needSome asks2.p fun a114 =>
            0 ≤ i24 ∧ i24 < ((asks2.l : Nat) : Int) ∧
            ∃ s115 : Slc, World.cell? w25 (Addr.add a114 ((Int.toNat i24) * 1)) = some (Slc.v s115) ∧
            BIf (decide ((10 : Int) < ((s115.l : Nat) : Int))) (
              K (Value.bool true) w25) (
              Calls Tryd.prog fn_token_Sequencer_Take ⟨[(Value.pointer p8), (Value.int .i64 (3 : Int)), (Slc.v s115)]⟩ w25 fun e116 w117 =>
              ∃ n118 : Int, ∃ s119 : Slc, ∃ e120 : Value, e116 = .returned (Value.tuple ⟨[(Value.int .i64 n118), (Slc.v s119), e120]⟩) ∧
              isI e120 ∧
              BIf (!isNilI e120) (
                BIf (!decide (((s119.l : Nat) : Int) = (0 : Int))) (
                  K (Value.bool false) w117) (
                  Calls Tryd.prog fn_tidewaternum_Num ⟨[e120]⟩ w117 fun e121 w122 =>
                  ∃ n123 : Int, e121 = .returned (Value.int .i64 n123) ∧
                  BIf (decide (n123 = (13 : Int))) (
                    BIf (!decide (next23 = (4096 : Int))) (
                      K (Value.bool false) w122) (
                      inR .i64 (i24 + (1 : Int)) ∧
                      (I21 (next23) ((i24 + (1 : Int))) w122 ∧ mu22 (next23) ((i24 + (1 : Int))) w122 < mu22 next23 i24 w25))) (
                    inR .i64 (i24 + (1 : Int)) ∧
                    (I21 (next23) ((i24 + (1 : Int))) w122 ∧ mu22 (next23) ((i24 + (1 : Int))) w122 < mu22 next23 i24 w25)))) (
                ∃ J124 : World → Prop,
                (
                  BIf (!decide (n118 = next23)) (
                    K (Value.bool false) w117) (
                    BIf (!decide (((s119.l : Nat) : Int) = ((s115.l : Nat) : Int))) (
                      K (Value.bool false) w117) (
                      J124 w117))) ∧ (
                ∀ w125 : World, J124 w125 → ∀ u126 u127 u128 u129 u130 u131 u132 u133 u134 u135 u136 : Value,
                  ∃ (I137 : (Int) → World → Prop) (mu138 : (Int) → World → Nat), I137 ((0 : Int)) w125 ∧ (
                  ∀ i139 : Int, ∀ w140 : World, I137 i139 w140 → ∀ u141 u142 u143 u144 u145 u146 u147 u148 u149 u150 u151 u152 u153 u154 u155 u156 u157 u158 u159 u160 u161 u162 u163 u164 u165 u166 u167 u168 u169 u170 u171 u172 u173 u174 u175 u176 u177 u178 u179 u180 u181 : Value,
                    BIf (decide (i139 < ((s115.l : Nat) : Int))) (
                      needSome s115.p fun a182 =>
                      0 ≤ i139 ∧ i139 < ((s115.l : Nat) : Int) ∧
                      ∃ n183 : Int, World.cell? w140 (Addr.add a182 ((Int.toNat i139) * 1)) = some (Value.int .i64 n183) ∧
                      needSome s119.p fun a184 =>
                      0 ≤ i139 ∧ i139 < ((s119.l : Nat) : Int) ∧
                      ∃ n185 : Int, World.cell? (World.drew w140) (Addr.add a184 ((Int.toNat i139) * 2)) = some (Value.int .i64 n185) ∧
                      BIf (!decide (n185 = n183)) (
                        K (Value.bool false) (World.drew w140)) (
                        needSome s119.p fun a186 =>
                        0 ≤ i139 ∧ i139 < ((s119.l : Nat) : Int) ∧
                        ∃ s187 : Slc, World.cell? (World.drew w140) ((Addr.add a186 ((Int.toNat i139) * 2)).add 1) = some (Slc.v s187) ∧
                        ∃ es188 : Array MapEntry, mapIs (World.drew w140) (some r19) es188 ∧
                        ∃ q189 : Option (Slc), mapGet (.int .i64) (Value.int .i64 n183) es188 = some (Option.map (Sh.v Sh.slc) q189) ∧
                        ∃ es190 : Array MapEntry, mapIs (World.drew w140) (some r19) es190 ∧
                        ∃ q191 : Option (Slc), mapGet (.int .i64) (Value.int .i64 n183) es190 = some (Option.map (Sh.v Sh.slc) q191) ∧
                        0 ≤ (0 : Int) ∧ (0 : Int) ≤ (if (((Option.getD q191 ⟨none, 0, 0⟩).l : Nat) : Int) < (4 : Int) then (((Option.getD q191 ⟨none, 0, 0⟩).l : Nat) : Int) else (4 : Int)) ∧ (if (((Option.getD q191 ⟨none, 0, 0⟩).l : Nat) : Int) < (4 : Int) then (((Option.getD q191 ⟨none, 0, 0⟩).l : Nat) : Int) else (4 : Int)) ≤ (((Option.getD q189 ⟨none, 0, 0⟩).c : Nat) : Int) ∧ (((Option.getD q189 ⟨none, 0, 0⟩).c : Nat) : Int) ≤ (((Option.getD q189 ⟨none, 0, 0⟩).c : Nat) : Int) ∧
                        Calls Tryd.prog fn_tidewaternum_SameInts ⟨[(Slc.v s187), (Slc.v (Slc.sub (Option.getD q189 ⟨none, 0, 0⟩) 1 0 (Int.toNat (if (((Option.getD q191 ⟨none, 0, 0⟩).l : Nat) : Int) < (4 : Int) then (((Option.getD q191 ⟨none, 0, 0⟩).l : Nat) : Int) else (4 : Int))) (Option.getD q189 ⟨none, 0, 0⟩).c))]⟩ (World.drew w140) fun e193 w194 =>
                        ∃ b195 : Bool, e193 = .returned (Value.bool b195) ∧
                        BIf (!b195) (
                          K (Value.bool false) w194) (
                          newS w194 (.cells ⟨[(Value.int .i64 n118)]⟩ 3) fun r196 w197 =>
                          ∃ es198 : Array MapEntry, mapIs w197 (some r19) es198 ∧
                          ∃ q199 : Option (Slc), mapGet (.int .i64) (Value.int .i64 n183) es198 = some (Option.map (Sh.v Sh.slc) q199) ∧
                          appendS 1 3 [(Value.int .i64 (0 : Int))] w197 (⟨(some (⟨r196, 0, none⟩ : Addr)), 1, 1⟩ : Slc) (.slc (Option.getD q199 ⟨none, 0, 0⟩)) fun s200 w201 =>
                          ∃ (mb202 : Nat) (es203 : Array MapEntry) (ck204 : Nat) (es205 : Array MapEntry) (ck206 : Nat), (some r19) = some mb202 ∧ (World.heap (w201))[mb202]? = some (.map es203 ck204) ∧ mapPut (.int .i64) (Value.int .i64 n183) (Slc.v s200) es203 ck204 = some (es205, ck206) ∧ ∀ w207 : World, w207 = setObjW w201 mb202 (.map es205 ck206) →
                          inR .i64 (i139 + (1 : Int)) ∧
                          (I137 ((i139 + (1 : Int))) w207 ∧ mu138 ((i139 + (1 : Int))) w207 < mu138 i139 w140)))) (
                      inR .i64 (next23 + (1 : Int)) ∧
                      inR .i64 (i24 + (1 : Int)) ∧
                      (I21 ((next23 + (1 : Int))) ((i24 + (1 : Int))) w140 ∧ mu22 ((next23 + (1 : Int))) ((i24 + (1 : Int))) w140 < mu22 next23 i24 w25))))))) (
            K (Value.bool true) w25)))))

theorem tidewaterlaw13_TokenOnce_eq (next1 : Int) (asks2 : Slc) (w : World) (K : Value → World → Prop) : tidewaterlaw13_TokenOnce next1 asks2 w K = denF Tryd.prog callB Tryd.f8 (.two .none (.two .none (.two .none (.two .none (.two .none (.cut [] [4, 29, 30, 31, 32, 33, 34] .none (.two .none (.two (.two .none (.one (.loop [(0, (Sh.int .i64)), (38, (Sh.int .i64))] [4, 9, 10, 11, 12, 13, 14, 39, 40, 41, 42, 43, 44, 45, 46, 47, 48, 49, 50, 51, 52, 53, 54, 55, 56, 57, 58, 59, 60, 61, 62, 63, 64, 65, 66, 67, 68, 69, 70, 71, 72, 73, 74, 75, 76, 77, 78, 79, 80, 81, 82, 83, 84, 85, 86, 87, 88, 89, 90, 91, 92, 93, 94, 95, 96, 97, 98, 99, 100, 101, 102, 103, 104, 105, 106, 107, 108, 109, 110, 111, 112, 113, 114, 115, 116, 117, 118, 119] (.two .none (.two .none (.two (.one (.two .none (.two .none (.two .none (.two .none (.cut [] [4, 66, 67, 68, 69, 70, 71, 72, 73, 74, 75] .none (.two (.two .none (.one (.loop [(78, (Sh.int .i64))] [4, 13, 14, 79, 80, 81, 82, 83, 84, 85, 86, 87, 88, 89, 90, 91, 92, 93, 94, 95, 96, 97, 98, 99, 100, 101, 102, 103, 104, 105, 106, 107, 108, 109, 110, 111, 112, 113, 114, 115, 116] .none))) .none))))))) .none)))))) .none)))))))) [(Value.int .i64 next1), (Slc.v asks2)] w K := by kernel_rfl
theorem tidewaterlaw13_TokenOnce_ok (next1 : Int) (asks2 : Slc) {w : World} {R : Ending → World → Prop} (h : tidewaterlaw13_TokenOnce next1 asks2 w fun v w' => R (.returned v) w') : Calls Tryd.prog fn_tidewaterlaw13_TokenOnce ⟨[(Value.int .i64 next1), (Slc.v asks2)]⟩ w R :=
  calls_of_den callB_ok mixed Tryd.func8 (tidewaterlaw13_TokenOnce_eq next1 asks2 w _ ▸ h)

end Go.D
