/-
  WHAT IS PROVED: verification conditions of functions of this program, each with its soundness. No further conditions.
-/
import Derived.Test.YtkcobfichmjbdaaDoorBase
set_option linter.unusedSimpArgs false
set_option maxRecDepth 100000
set_option linter.unusedVariables false
namespace Go.D
open Go Go.Proofs
/-- (*tidewater/token.Sequencer).Copy -/
def token_Sequencer_Copy (s1 : Option Addr) (w : World) (K : Value → World → Prop) : Prop :=
  needSome s1 fun a2 =>
  ∃ n3 : Int, ∃ n4 : Int, ∃ s5 : Slc, ∃ s6 : Slc, ∃ s7 : Slc, ∃ s8 : Slc, ∃ s9 : Slc, ∃ s10 : Slc, ∃ s11 : Slc, ∃ s12 : Slc, ∃ s13 : Slc, ∃ s14 : Slc, ∃ s15 : Slc, ∃ s16 : Slc, ∃ s17 : Slc, rowAt w a2 0 [(Value.int .i64 n3), (Value.int .i64 n4), (Slc.v s5), (Slc.v s6), (Slc.v s7), (Slc.v s8), (Slc.v s9), (Slc.v s10), (Slc.v s11), (Slc.v s12), (Slc.v s13), (Slc.v s14), (Slc.v s15), (Slc.v s16), (Slc.v s17)] ∧
  newS w (.cells ⟨[(Value.int .i64 (0 : Int)), (Value.int .i64 (0 : Int)), (Slc.v (⟨none, 0, 0⟩ : Slc)), (Slc.v (⟨none, 0, 0⟩ : Slc)), (Slc.v (⟨none, 0, 0⟩ : Slc)), (Slc.v (⟨none, 0, 0⟩ : Slc)), (Slc.v (⟨none, 0, 0⟩ : Slc)), (Slc.v (⟨none, 0, 0⟩ : Slc)), (Slc.v (⟨none, 0, 0⟩ : Slc)), (Slc.v (⟨none, 0, 0⟩ : Slc)), (Slc.v (⟨none, 0, 0⟩ : Slc)), (Slc.v (⟨none, 0, 0⟩ : Slc)), (Slc.v (⟨none, 0, 0⟩ : Slc)), (Slc.v (⟨none, 0, 0⟩ : Slc)), (Slc.v (⟨none, 0, 0⟩ : Slc))]⟩ 156) fun r18 w19 =>
  canW w19 (⟨r18, 0, none⟩ : Addr) 15 ∧ ∀ w20 : World, w20 = setCells w19 (⟨r18, 0, none⟩ : Addr) 0 [(Value.int .i64 n3), (Value.int .i64 n4), (Slc.v s5), (Slc.v s6), (Slc.v s7), (Slc.v s8), (Slc.v s9), (Slc.v s10), (Slc.v s11), (Slc.v s12), (Slc.v s13), (Slc.v s14), (Slc.v s15), (Slc.v s16), (Slc.v s17)] →
  ∃ s21 : Slc, ∃ s22 : Slc, ∃ s23 : Slc, ∃ s24 : Slc, ∃ s25 : Slc, ∃ s26 : Slc, ∃ s27 : Slc, ∃ s28 : Slc, ∃ s29 : Slc, ∃ s30 : Slc, ∃ s31 : Slc, ∃ s32 : Slc, ∃ s33 : Slc, rowAt w20 (⟨r18, 2, none⟩ : Addr) 0 [(Slc.v s21), (Slc.v s22), (Slc.v s23), (Slc.v s24), (Slc.v s25), (Slc.v s26), (Slc.v s27), (Slc.v s28), (Slc.v s29), (Slc.v s30), (Slc.v s31), (Slc.v s32), (Slc.v s33)] ∧
  ∃ (I34 : (Int) → World → Prop) (mu35 : (Int) → World → Nat), I34 ((0 : Int)) w20 ∧ (
  ∀ i36 : Int, ∀ w37 : World, I34 i36 w37 → ∀ u38 u39 u40 u41 u42 u43 u44 u45 u46 u47 u48 : Value,
    BIf (decide (i36 < (13 : Int))) (
      0 ≤ i36 ∧ i36 < ((13 : Nat) : Int) ∧
      ∃ s49 : Slc, ([(Slc.v s21), (Slc.v s22), (Slc.v s23), (Slc.v s24), (Slc.v s25), (Slc.v s26), (Slc.v s27), (Slc.v s28), (Slc.v s29), (Slc.v s30), (Slc.v s31), (Slc.v s32), (Slc.v s33)] : List Value)[(Int.toNat i36)]? = some (Slc.v s49) ∧
      Calls Tryd.prog fn_slices_Clone_int ⟨[(Slc.v s49)]⟩ w37 fun e50 w51 =>
      ∃ s52 : Slc, e50 = .returned (Slc.v s52) ∧
      0 ≤ i36 ∧ i36 < ((13 : Nat) : Int) ∧
      canW w51 (Addr.add (⟨r18, 2, none⟩ : Addr) ((Int.toNat i36) * 1)) 1 ∧ ∀ w53 : World, w53 = World.setCell w51 (Addr.add (⟨r18, 2, none⟩ : Addr) ((Int.toNat i36) * 1)) (Slc.v s52) →
      inR .i64 (i36 + (1 : Int)) ∧
      (I34 ((i36 + (1 : Int))) w53 ∧ mu35 ((i36 + (1 : Int))) w53 < mu35 i36 w37)) (
      K (Value.pointer (some (⟨r18, 0, none⟩ : Addr))) w37))

theorem token_Sequencer_Copy_eq (s1 : Option Addr) (w : World) (K : Value → World → Prop) : token_Sequencer_Copy s1 w K = denF Tryd.prog callB Tryd.f42 (.two .none (.two .none (.two (.two .none (.one (.loop [(11, (Sh.int .i64))] [4, 5, 12, 13, 14, 15, 16, 17, 18, 19, 20] .none))) .none))) [(Value.pointer s1)] w K := by kernel_rfl
theorem token_Sequencer_Copy_ok (s1 : Option Addr) {w : World} {R : Ending → World → Prop} (h : token_Sequencer_Copy s1 w fun v w' => R (.returned v) w') : Calls Tryd.prog fn_token_Sequencer_Copy ⟨[(Value.pointer s1)]⟩ w R :=
  calls_of_den callB_ok mixed Tryd.func42 (token_Sequencer_Copy_eq s1 w _ ▸ h)

/-- (*tidewater/token.Sequencer).Backs -/
def token_Sequencer_Backs (s1 : Option Addr) (w : World) (K : Value → World → Prop) : Prop :=
  needSome s1 fun a2 =>
  ∃ s3 : Slc, ∃ s4 : Slc, ∃ s5 : Slc, ∃ s6 : Slc, ∃ s7 : Slc, ∃ s8 : Slc, ∃ s9 : Slc, ∃ s10 : Slc, ∃ s11 : Slc, ∃ s12 : Slc, ∃ s13 : Slc, ∃ s14 : Slc, ∃ s15 : Slc, rowAt w (a2.add 2) 0 [(Slc.v s3), (Slc.v s4), (Slc.v s5), (Slc.v s6), (Slc.v s7), (Slc.v s8), (Slc.v s9), (Slc.v s10), (Slc.v s11), (Slc.v s12), (Slc.v s13), (Slc.v s14), (Slc.v s15)] ∧
  ∃ (I16 : (Slc) → (Int) → World → Prop) (mu17 : (Slc) → (Int) → World → Nat), I16 ((⟨none, 0, 0⟩ : Slc)) ((0 : Int)) w ∧ (
  ∀ out18 : Slc, ∀ i19 : Int, ∀ w20 : World, I16 out18 i19 w20 → ∀ u21 u22 u23 u24 u25 u26 u27 u28 u29 u30 u31 u32 u33 u34 u35 u36 : Value,
    BIf (decide (i19 < (13 : Int))) (
      0 ≤ i19 ∧ i19 < ((13 : Nat) : Int) ∧
      ∃ s37 : Slc, ([(Slc.v s3), (Slc.v s4), (Slc.v s5), (Slc.v s6), (Slc.v s7), (Slc.v s8), (Slc.v s9), (Slc.v s10), (Slc.v s11), (Slc.v s12), (Slc.v s13), (Slc.v s14), (Slc.v s15)] : List Value)[(Int.toNat i19)]? = some (Slc.v s37) ∧
      BIf (decide ((0 : Int) < ((s37.l : Nat) : Int))) (
        Calls Tryd.prog fn_slices_Clone_int ⟨[(Slc.v s37)]⟩ w20 fun e38 w39 =>
        ∃ s40 : Slc, e38 = .returned (Slc.v s40) ∧
        newS w39 (.cells ⟨[(Value.int .i64 i19), (Slc.v s40)]⟩ 104) fun r41 w42 =>
        appendS 2 104 [(Value.int .i64 (0 : Int)), (Slc.v (⟨none, 0, 0⟩ : Slc))] w42 out18 (.slc (⟨(some (⟨r41, 0, none⟩ : Addr)), 1, 1⟩ : Slc)) fun s43 w44 =>
        inR .i64 (i19 + (1 : Int)) ∧
        (I16 (s43) ((i19 + (1 : Int))) w44 ∧ mu17 (s43) ((i19 + (1 : Int))) w44 < mu17 out18 i19 w20)) (
        inR .i64 (i19 + (1 : Int)) ∧
        (I16 (out18) ((i19 + (1 : Int))) w20 ∧ mu17 (out18) ((i19 + (1 : Int))) w20 < mu17 out18 i19 w20))) (
      K (Slc.v out18) w20))

theorem token_Sequencer_Backs_eq (s1 : Option Addr) (w : World) (K : Value → World → Prop) : token_Sequencer_Backs s1 w K = denF Tryd.prog callB Tryd.f80 (.two .none (.two .none (.two (.two .none (.one (.loop [(3, Sh.slc), (10, (Sh.int .i64))] [4, 5, 11, 12, 13, 14, 15, 16, 17, 18, 19, 20, 21, 22, 23, 24] .none))) .none))) [(Value.pointer s1)] w K := by kernel_rfl
theorem token_Sequencer_Backs_ok (s1 : Option Addr) {w : World} {R : Ending → World → Prop} (h : token_Sequencer_Backs s1 w fun v w' => R (.returned v) w') : Calls Tryd.prog fn_token_Sequencer_Backs ⟨[(Value.pointer s1)]⟩ w R :=
  calls_of_den callB_ok mixed Tryd.func80 (token_Sequencer_Backs_eq s1 w _ ▸ h)

/-- (*tidewater/tidewaterref13.Sequencer).Backs -/
def tidewaterref13_Sequencer_Backs (s1 : Option Addr) (w : World) (K : Value → World → Prop) : Prop :=
  newS w (.cells ⟨[]⟩ 104) fun r2 w3 =>
  needSome s1 fun a4 =>
  ∃ s5 : Slc, ∃ s6 : Slc, ∃ s7 : Slc, ∃ s8 : Slc, ∃ s9 : Slc, ∃ s10 : Slc, ∃ s11 : Slc, ∃ s12 : Slc, ∃ s13 : Slc, ∃ s14 : Slc, ∃ s15 : Slc, ∃ s16 : Slc, ∃ s17 : Slc, rowAt w3 (a4.add 2) 0 [(Slc.v s5), (Slc.v s6), (Slc.v s7), (Slc.v s8), (Slc.v s9), (Slc.v s10), (Slc.v s11), (Slc.v s12), (Slc.v s13), (Slc.v s14), (Slc.v s15), (Slc.v s16), (Slc.v s17)] ∧
  ∃ (I18 : (Slc) → (Int) → World → Prop) (mu19 : (Slc) → (Int) → World → Nat), I18 ((⟨(some (⟨r2, 0, none⟩ : Addr)), 0, 0⟩ : Slc)) ((0 : Int)) w3 ∧ (
  ∀ out20 : Slc, ∀ i21 : Int, ∀ w22 : World, I18 out20 i21 w22 → ∀ u23 u24 u25 u26 u27 u28 u29 u30 u31 u32 u33 u34 u35 u36 u37 u38 : Value,
    BIf (decide (i21 < (13 : Int))) (
      0 ≤ i21 ∧ i21 < ((13 : Nat) : Int) ∧
      ∃ s39 : Slc, ([(Slc.v s5), (Slc.v s6), (Slc.v s7), (Slc.v s8), (Slc.v s9), (Slc.v s10), (Slc.v s11), (Slc.v s12), (Slc.v s13), (Slc.v s14), (Slc.v s15), (Slc.v s16), (Slc.v s17)] : List Value)[(Int.toNat i21)]? = some (Slc.v s39) ∧
      BIf (decide ((0 : Int) < ((s39.l : Nat) : Int))) (
        Calls Tryd.prog fn_tidewaterref13_newest ⟨[(Slc.v s39)]⟩ w22 fun e40 w41 =>
        ∃ s42 : Slc, e40 = .returned (Slc.v s42) ∧
        newS w41 (.cells ⟨[(Value.int .i64 i21), (Slc.v s42)]⟩ 104) fun r43 w44 =>
        appendS 2 104 [(Value.int .i64 (0 : Int)), (Slc.v (⟨none, 0, 0⟩ : Slc))] w44 out20 (.slc (⟨(some (⟨r43, 0, none⟩ : Addr)), 1, 1⟩ : Slc)) fun s45 w46 =>
        inR .i64 (i21 + (1 : Int)) ∧
        (I18 (s45) ((i21 + (1 : Int))) w46 ∧ mu19 (s45) ((i21 + (1 : Int))) w46 < mu19 out20 i21 w22)) (
        inR .i64 (i21 + (1 : Int)) ∧
        (I18 (out20) ((i21 + (1 : Int))) w22 ∧ mu19 (out20) ((i21 + (1 : Int))) w22 < mu19 out20 i21 w22))) (
      K (Slc.v out20) w22))

theorem tidewaterref13_Sequencer_Backs_eq (s1 : Option Addr) (w : World) (K : Value → World → Prop) : tidewaterref13_Sequencer_Backs s1 w K = denF Tryd.prog callB Tryd.f81 (.two .none (.two .none (.two (.two .none (.one (.loop [(3, Sh.slc), (11, (Sh.int .i64))] [4, 5, 12, 13, 14, 15, 16, 17, 18, 19, 20, 21, 22, 23, 24, 25] .none))) .none))) [(Value.pointer s1)] w K := by kernel_rfl
theorem tidewaterref13_Sequencer_Backs_ok (s1 : Option Addr) {w : World} {R : Ending → World → Prop} (h : tidewaterref13_Sequencer_Backs s1 w fun v w' => R (.returned v) w') : Calls Tryd.prog fn_tidewaterref13_Sequencer_Backs ⟨[(Value.pointer s1)]⟩ w R :=
  calls_of_den callB_ok mixed Tryd.func81 (tidewaterref13_Sequencer_Backs_eq s1 w _ ▸ h)

/-- (*tidewater/tidewaterref13.Sequencer).Newest -/
def tidewaterref13_Sequencer_Newest (s1 : Option Addr) (stream2 : Int) (w : World) (K : Value → World → Prop) : Prop :=
  needSome s1 fun a3 =>
  0 ≤ stream2 ∧ stream2 < ((13 : Nat) : Int) ∧
  ∃ s4 : Slc, World.cell? w (Addr.add (a3.add 2) ((Int.toNat stream2) * 1)) = some (Slc.v s4) ∧
  Calls Tryd.prog fn_tidewaterref13_newest ⟨[(Slc.v s4)]⟩ w fun e5 w6 =>
  ∃ s7 : Slc, e5 = .returned (Slc.v s7) ∧
  K (Slc.v s7) w6

theorem tidewaterref13_Sequencer_Newest_eq (s1 : Option Addr) (stream2 : Int) (w : World) (K : Value → World → Prop) : tidewaterref13_Sequencer_Newest s1 stream2 w K = denF Tryd.prog callB Tryd.f82 .none [(Value.pointer s1), (Value.int .i64 stream2)] w K := by kernel_rfl
theorem tidewaterref13_Sequencer_Newest_ok (s1 : Option Addr) (stream2 : Int) {w : World} {R : Ending → World → Prop} (h : tidewaterref13_Sequencer_Newest s1 stream2 w fun v w' => R (.returned v) w') : Calls Tryd.prog fn_tidewaterref13_Sequencer_Newest ⟨[(Value.pointer s1), (Value.int .i64 stream2)]⟩ w R :=
  calls_of_den callB_ok mixed Tryd.func82 (tidewaterref13_Sequencer_Newest_eq s1 stream2 w _ ▸ h)

/-- tidewater/tidewaterref13.right -/
def tidewaterref13_right (l1 : Slc) (w : World) (K : Value → World → Prop) : Prop :=
  ∃ (I2 : (Int) → World → Prop) (mu3 : (Int) → World → Nat), I2 ((0 : Int)) w ∧ (
  ∀ i4 : Int, ∀ w5 : World, I2 i4 w5 → ∀ u6 u7 u8 u9 u10 u11 u12 u13 u14 u15 u16 u17 u18 u19 u20 u21 u22 u23 u24 u25 u26 u27 u28 u29 u30 u31 u32 : Value,
    BIf (decide (i4 < ((l1.l : Nat) : Int))) (
      needSome l1.p fun a33 =>
      0 ≤ i4 ∧ i4 < ((l1.l : Nat) : Int) ∧
      ∃ n34 : Int, World.cell? w5 (Addr.add a33 ((Int.toNat i4) * 1)) = some (Value.int .i64 n34) ∧
      BIf (decide (n34 < (0 : Int))) (
        K (Value.bool false) w5) (
        BIf (decide ((12 : Int) < n34)) (
          K (Value.bool false) w5) (
          BIf (decide ((0 : Int) < i4)) (
            inR .i64 (i4 - (1 : Int)) ∧
            needSome l1.p fun a35 =>
            0 ≤ (i4 - (1 : Int)) ∧ (i4 - (1 : Int)) < ((l1.l : Nat) : Int) ∧
            ∃ n36 : Int, World.cell? w5 (Addr.add a35 ((Int.toNat (i4 - (1 : Int))) * 1)) = some (Value.int .i64 n36) ∧
            BIf (decide (n34 ≤ n36)) (
              K (Value.bool false) w5) (
              inR .i64 (i4 + (1 : Int)) ∧
              (I2 ((i4 + (1 : Int))) w5 ∧ mu3 ((i4 + (1 : Int))) w5 < mu3 i4 w5))) (
            inR .i64 (i4 + (1 : Int)) ∧
            (I2 ((i4 + (1 : Int))) w5 ∧ mu3 ((i4 + (1 : Int))) w5 < mu3 i4 w5))))) (
      K (Value.bool true) w5))

theorem tidewaterref13_right_eq (l1 : Slc) (w : World) (K : Value → World → Prop) : tidewaterref13_right l1 w K = denF Tryd.prog callB Tryd.f77 (.two .none (.two (.two .none (.one (.loop [(7, (Sh.int .i64))] [2, 3, 4, 8, 9, 10, 11, 12, 13, 14, 15, 16, 17, 18, 19, 20, 21, 22, 23, 24, 25, 26, 27, 28, 29, 30, 31] .none))) .none)) [(Slc.v l1)] w K := by kernel_rfl
theorem tidewaterref13_right_ok (l1 : Slc) {w : World} {R : Ending → World → Prop} (h : tidewaterref13_right l1 w fun v w' => R (.returned v) w') : Calls Tryd.prog fn_tidewaterref13_right ⟨[(Slc.v l1)]⟩ w R :=
  calls_of_den callB_ok mixed Tryd.func77 (tidewaterref13_right_eq l1 w _ ▸ h)

/-- tidewater/tidewaterref13.newest -/
def tidewaterref13_newest (l1 : Slc) (w : World) (K : Value → World → Prop) : Prop :=
  BIf (decide ((4 : Int) < ((l1.l : Nat) : Int))) (
    0 ≤ (0 : Int) ∧ (0 : Int) ≤ (4 : Int) ∧ (4 : Int) ≤ ((l1.c : Nat) : Int) ∧ ((l1.c : Nat) : Int) ≤ ((l1.c : Nat) : Int) ∧
    newS w (.cells ⟨[]⟩ 3) fun r3 w4 =>
    appendS 1 3 [(Value.int .i64 (0 : Int))] w4 (⟨(some (⟨r3, 0, none⟩ : Addr)), 0, 0⟩ : Slc) (.slc (Slc.sub l1 1 0 4 l1.c)) fun s5 w6 =>
    K (Slc.v s5) w6) (
    newS w (.cells ⟨[]⟩ 3) fun r7 w8 =>
    appendS 1 3 [(Value.int .i64 (0 : Int))] w8 (⟨(some (⟨r7, 0, none⟩ : Addr)), 0, 0⟩ : Slc) (.slc l1) fun s9 w10 =>
    K (Slc.v s9) w10)

theorem tidewaterref13_newest_eq (l1 : Slc) (w : World) (K : Value → World → Prop) : tidewaterref13_newest l1 w K = denF Tryd.prog callB Tryd.f78 .none [(Slc.v l1)] w K := by kernel_rfl
theorem tidewaterref13_newest_ok (l1 : Slc) {w : World} {R : Ending → World → Prop} (h : tidewaterref13_newest l1 w fun v w' => R (.returned v) w') : Calls Tryd.prog fn_tidewaterref13_newest ⟨[(Slc.v l1)]⟩ w R :=
  calls_of_den callB_ok mixed Tryd.func78 (tidewaterref13_newest_eq l1 w _ ▸ h)

/-- tidewater/tidewaterref13.New -/
def tidewaterref13_New (epoch1 : Int) (next2 : Int) (backs3 : Slc) (w : World) (K : Value → World → Prop) : Prop :=
  ∃ J4 : World → Prop,
  (
    BIf (decide (epoch1 < (0 : Int))) (
      K (Value.tuple ⟨[(Value.pointer none), (Value.int .i64 (14 : Int))]⟩) w) (
      BIf (decide ((1073741824 : Int) < epoch1)) (
        K (Value.tuple ⟨[(Value.pointer none), (Value.int .i64 (14 : Int))]⟩) w) (
        J4 w))) ∧ (
  ∀ w5 : World, J4 w5 → ∀ u6 u7 u8 u9 u10 u11 u12 u13 : Value,
    ∃ J14 : World → Prop,
    (
      BIf (decide (next2 < (0 : Int))) (
        K (Value.tuple ⟨[(Value.pointer none), (Value.int .i64 (1 : Int))]⟩) w5) (
        BIf (decide ((4096 : Int) < next2)) (
          K (Value.tuple ⟨[(Value.pointer none), (Value.int .i64 (1 : Int))]⟩) w5) (
          J14 w5))) ∧ (
    ∀ w15 : World, J14 w15 → ∀ u16 u17 u18 u19 u20 u21 u22 u23 : Value,
      newS w15 (.cells ⟨[(Value.int .i64 epoch1), (Value.int .i64 next2), (Slc.v (⟨none, 0, 0⟩ : Slc)), (Slc.v (⟨none, 0, 0⟩ : Slc)), (Slc.v (⟨none, 0, 0⟩ : Slc)), (Slc.v (⟨none, 0, 0⟩ : Slc)), (Slc.v (⟨none, 0, 0⟩ : Slc)), (Slc.v (⟨none, 0, 0⟩ : Slc)), (Slc.v (⟨none, 0, 0⟩ : Slc)), (Slc.v (⟨none, 0, 0⟩ : Slc)), (Slc.v (⟨none, 0, 0⟩ : Slc)), (Slc.v (⟨none, 0, 0⟩ : Slc)), (Slc.v (⟨none, 0, 0⟩ : Slc)), (Slc.v (⟨none, 0, 0⟩ : Slc)), (Slc.v (⟨none, 0, 0⟩ : Slc))]⟩ 160) fun r24 w25 =>
      newS w25 (.cells ⟨[]⟩ 3) fun r26 w27 =>
      ∃ (I28 : (Slc) → (Int) → World → Prop) (mu29 : (Slc) → (Int) → World → Nat), I28 ((⟨(some (⟨r26, 0, none⟩ : Addr)), 0, 0⟩ : Slc)) ((0 : Int)) w27 ∧ (
      ∀ l30 : Slc, ∀ i31 : Int, ∀ w32 : World, I28 l30 i31 w32 → ∀ u33 u34 u35 u36 u37 u38 u39 u40 u41 u42 u43 u44 u45 u46 u47 u48 u49 u50 u51 u52 u53 u54 u55 u56 u57 u58 u59 u60 u61 u62 u63 u64 u65 u66 u67 u68 u69 u70 u71 u72 u73 u74 u75 u76 u77 u78 u79 u80 u81 u82 u83 u84 u85 u86 : Value,
        BIf (decide (i31 < ((backs3.l : Nat) : Int))) (
          needSome backs3.p fun a87 =>
          0 ≤ i31 ∧ i31 < ((backs3.l : Nat) : Int) ∧
          ∃ n88 : Int, ∃ s89 : Slc, rowAt w32 (Addr.add a87 ((Int.toNat i31) * 2)) 0 [(Value.int .i64 n88), (Slc.v s89)] ∧
          newS w32 (.cells ⟨[(Value.int .i64 (0 : Int)), (Slc.v (⟨none, 0, 0⟩ : Slc))]⟩ 104) fun r90 w91 =>
          canW w91 (⟨r90, 0, none⟩ : Addr) 2 ∧ ∀ w92 : World, w92 = setCells w91 (⟨r90, 0, none⟩ : Addr) 0 [(Value.int .i64 n88), (Slc.v s89)] →
          ∃ n93 : Int, World.cell? w92 (⟨r90, 0, none⟩ : Addr) = some (Value.int .i64 n93) ∧
          newS w92 (.cells ⟨[(Value.int .i64 n93)]⟩ 3) fun r94 w95 =>
          appendS 1 3 [(Value.int .i64 (0 : Int))] w95 l30 (.slc (⟨(some (⟨r94, 0, none⟩ : Addr)), 1, 1⟩ : Slc)) fun s96 w97 =>
          ∃ s98 : Slc, World.cell? w97 (⟨r90, 1, none⟩ : Addr) = some (Slc.v s98) ∧
          ∃ s99 : Slc, World.cell? w97 (⟨r90, 1, none⟩ : Addr) = some (Slc.v s99) ∧
          ∃ (I100 : (Bool) → (Int) → World → Prop) (mu101 : (Bool) → (Int) → World → Nat), I100 ((decide (((s98.l : Nat) : Int) ≤ (4 : Int)))) ((0 : Int)) w97 ∧ (
          ∀ ok102 : Bool, ∀ i103 : Int, ∀ w104 : World, I100 ok102 i103 w104 → ∀ u105 u106 u107 u108 u109 u110 u111 u112 u113 u114 u115 u116 u117 u118 u119 u120 u121 u122 u123 u124 u125 u126 u127 u128 u129 u130 u131 u132 u133 u134 u135 : Value,
            BIf (decide (i103 < ((s99.l : Nat) : Int))) (
              needSome s99.p fun a136 =>
              0 ≤ i103 ∧ i103 < ((s99.l : Nat) : Int) ∧
              ∃ n137 : Int, World.cell? w104 (Addr.add a136 ((Int.toNat i103) * 1)) = some (Value.int .i64 n137) ∧
              BIf ok102 (
                BIf (decide ((0 : Int) ≤ n137)) (
                  BIf (decide (n137 < next2)) (
                    BIf (decide (i103 = (0 : Int))) (
                      inR .i64 (i103 + (1 : Int)) ∧
                      (I100 (true) ((i103 + (1 : Int))) w104 ∧ mu101 (true) ((i103 + (1 : Int))) w104 < mu101 ok102 i103 w104)) (
                      ∃ s138 : Slc, World.cell? w104 (⟨r90, 1, none⟩ : Addr) = some (Slc.v s138) ∧
                      inR .i64 (i103 - (1 : Int)) ∧
                      needSome s138.p fun a139 =>
                      0 ≤ (i103 - (1 : Int)) ∧ (i103 - (1 : Int)) < ((s138.l : Nat) : Int) ∧
                      ∃ n140 : Int, World.cell? w104 (Addr.add a139 ((Int.toNat (i103 - (1 : Int))) * 1)) = some (Value.int .i64 n140) ∧
                      inR .i64 (i103 + (1 : Int)) ∧
                      (I100 ((decide (n137 < n140))) ((i103 + (1 : Int))) w104 ∧ mu101 ((decide (n137 < n140))) ((i103 + (1 : Int))) w104 < mu101 ok102 i103 w104))) (
                    inR .i64 (i103 + (1 : Int)) ∧
                    (I100 (false) ((i103 + (1 : Int))) w104 ∧ mu101 (false) ((i103 + (1 : Int))) w104 < mu101 ok102 i103 w104))) (
                  inR .i64 (i103 + (1 : Int)) ∧
                  (I100 (false) ((i103 + (1 : Int))) w104 ∧ mu101 (false) ((i103 + (1 : Int))) w104 < mu101 ok102 i103 w104))) (
                inR .i64 (i103 + (1 : Int)) ∧
                (I100 (false) ((i103 + (1 : Int))) w104 ∧ mu101 (false) ((i103 + (1 : Int))) w104 < mu101 ok102 i103 w104))) (
              BIf (!ok102) (
                K (Value.tuple ⟨[(Value.pointer none), (Value.int .i64 (4 : Int))]⟩) w104) (
                inR .i64 (i31 + (1 : Int)) ∧
                (I28 (s96) ((i31 + (1 : Int))) w104 ∧ mu29 (s96) ((i31 + (1 : Int))) w104 < mu29 l30 i31 w32))))) (
          Calls Tryd.prog fn_tidewaterref13_right ⟨[(Slc.v l30)]⟩ w32 fun e141 w142 =>
          ∃ b143 : Bool, e141 = .returned (Value.bool b143) ∧
          BIf (!b143) (
            K (Value.tuple ⟨[(Value.pointer none), (Value.int .i64 (4 : Int))]⟩) w142) (
            ∃ (I144 : (Int) → World → Prop) (mu145 : (Int) → World → Nat), I144 ((0 : Int)) w142 ∧ (
            ∀ i146 : Int, ∀ w147 : World, I144 i146 w147 → ∀ u148 u149 u150 u151 u152 u153 u154 u155 u156 u157 u158 u159 u160 u161 u162 : Value,
              BIf (decide (i146 < ((backs3.l : Nat) : Int))) (
                needSome backs3.p fun a163 =>
                0 ≤ i146 ∧ i146 < ((backs3.l : Nat) : Int) ∧
                ∃ n164 : Int, ∃ s165 : Slc, rowAt w147 (Addr.add a163 ((Int.toNat i146) * 2)) 0 [(Value.int .i64 n164), (Slc.v s165)] ∧
                newS w147 (.cells ⟨[(Value.int .i64 (0 : Int)), (Slc.v (⟨none, 0, 0⟩ : Slc))]⟩ 104) fun r166 w167 =>
                canW w167 (⟨r166, 0, none⟩ : Addr) 2 ∧ ∀ w168 : World, w168 = setCells w167 (⟨r166, 0, none⟩ : Addr) 0 [(Value.int .i64 n164), (Slc.v s165)] →
                ∃ n169 : Int, World.cell? (World.drew w168) (⟨r166, 0, none⟩ : Addr) = some (Value.int .i64 n169) ∧
                ∃ s170 : Slc, World.cell? (World.drew w168) (⟨r166, 1, none⟩ : Addr) = some (Slc.v s170) ∧
                newS (World.drew w168) (.cells ⟨[]⟩ 3) fun r171 w172 =>
                (∃ s173 : Slc, World.cell? w172 (⟨r166, 1, none⟩ : Addr) = some (Slc.v s173) ∧
                (Slc.v s173) = (Slc.v s170)) ∧
                (∃ n174 : Int, World.cell? w172 (⟨r166, 0, none⟩ : Addr) = some (Value.int .i64 n174) ∧
                (Value.int .i64 n174) = (Value.int .i64 n169)) ∧
                appendS 1 3 [(Value.int .i64 (0 : Int))] w172 (⟨(some (⟨r171, 0, none⟩ : Addr)), 0, 0⟩ : Slc) (.slc s170) fun s175 w176 =>
                (∃ n177 : Int, World.cell? w176 (⟨r166, 0, none⟩ : Addr) = some (Value.int .i64 n177) ∧
                (Value.int .i64 n177) = (Value.int .i64 n169)) ∧
                0 ≤ n169 ∧ n169 < ((13 : Nat) : Int) ∧
                canW w176 (Addr.add (⟨r24, 2, none⟩ : Addr) ((Int.toNat n169) * 1)) 1 ∧ ∀ w178 : World, w178 = World.setCell w176 (Addr.add (⟨r24, 2, none⟩ : Addr) ((Int.toNat n169) * 1)) (Slc.v s175) →
                inR .i64 (i146 + (1 : Int)) ∧
                (I144 ((i146 + (1 : Int))) w178 ∧ mu145 ((i146 + (1 : Int))) w178 < mu145 i146 w147)) (
                K (Value.tuple ⟨[(Value.pointer (some (⟨r24, 0, none⟩ : Addr))), (Value.int .i64 (0 : Int))]⟩) w147)))))))

theorem tidewaterref13_New_eq (epoch1 : Int) (next2 : Int) (backs3 : Slc) (w : World) (K : Value → World → Prop) : tidewaterref13_New epoch1 next2 backs3 w K = denF Tryd.prog callB Tryd.f49 (.two .none (.cut [] [6, 7, 17, 18, 19, 20, 21, 22] .none (.cut [] [6, 7, 23, 24, 25, 26, 27, 28] .none (.two .none (.two .none (.two (.two .none (.one (.loop [(9, Sh.slc), (36, (Sh.int .i64))] [6, 7, 11, 12, 13, 14, 37, 38, 39, 40, 41, 42, 43, 44, 45, 46, 47, 48, 49, 50, 51, 52, 53, 54, 55, 56, 57, 58, 59, 60, 61, 62, 63, 64, 65, 66, 67, 68, 69, 70, 71, 72, 73, 74, 75, 76, 77, 78, 79, 80, 81, 82, 83, 84] (.two .none (.two .none (.two (.one (.two .none (.two .none (.two .none (.two (.two .none (.one (.loop [(12, Sh.bool), (52, (Sh.int .i64))] [13, 14, 53, 54, 55, 56, 57, 58, 59, 60, 61, 62, 63, 64, 65, 66, 67, 68, 69, 70, 71, 72, 73, 74, 75, 76, 77, 78, 79, 80, 81] .none))) .none))))) .none)))))) (.two .none (.two (.two .none (.one (.loop [(90, (Sh.int .i64))] [16, 91, 92, 93, 94, 95, 96, 97, 98, 99, 100, 101, 102, 103, 104] .none))) .none)))))))) [(Value.int .i64 epoch1), (Value.int .i64 next2), (Slc.v backs3)] w K := by kernel_rfl
theorem tidewaterref13_New_ok (epoch1 : Int) (next2 : Int) (backs3 : Slc) {w : World} {R : Ending → World → Prop} (h : tidewaterref13_New epoch1 next2 backs3 w fun v w' => R (.returned v) w') : Calls Tryd.prog fn_tidewaterref13_New ⟨[(Value.int .i64 epoch1), (Value.int .i64 next2), (Slc.v backs3)]⟩ w R :=
  calls_of_den callB_ok mixed Tryd.func49 (tidewaterref13_New_eq epoch1 next2 backs3 w _ ▸ h)

/-- (*tidewater/tidewaterref13.Sequencer).Take -/
def tidewaterref13_Sequencer_Take (s1 : Option Addr) (epoch2 : Int) (streams3 : Slc) (w : World) (K : Value → World → Prop) : Prop :=
  needSome s1 fun a4 =>
  ∃ n5 : Int, World.cell? w a4 = some (Value.int .i64 n5) ∧
  BIf (!decide (epoch2 = n5)) (
    K (Value.tuple ⟨[(Value.int .i64 (0 : Int)), (Slc.v (⟨none, 0, 0⟩ : Slc)), (Value.int .i64 (8 : Int))]⟩) w) (
    ∃ J6 : World → Prop,
    (
      BIf (decide (((streams3.l : Nat) : Int) < (1 : Int))) (
        K (Value.tuple ⟨[(Value.int .i64 (0 : Int)), (Slc.v (⟨none, 0, 0⟩ : Slc)), (Value.int .i64 (4 : Int))]⟩) w) (
        BIf (decide ((3 : Int) < ((streams3.l : Nat) : Int))) (
          K (Value.tuple ⟨[(Value.int .i64 (0 : Int)), (Slc.v (⟨none, 0, 0⟩ : Slc)), (Value.int .i64 (4 : Int))]⟩) w) (
          Calls Tryd.prog fn_tidewaterref13_right ⟨[(Slc.v streams3)]⟩ w fun e7 w8 =>
          ∃ b9 : Bool, e7 = .returned (Value.bool b9) ∧
          BIf (!b9) (
            K (Value.tuple ⟨[(Value.int .i64 (0 : Int)), (Slc.v (⟨none, 0, 0⟩ : Slc)), (Value.int .i64 (4 : Int))]⟩) w8) (
            J6 w8)))) ∧ (
    ∀ w10 : World, J6 w10 → ∀ u11 u12 u13 u14 u15 u16 u17 u18 u19 u20 u21 u22 u23 u24 u25 u26 : Value,
      needSome s1 fun a27 =>
      ∃ n28 : Int, World.cell? w10 (a27.add 1) = some (Value.int .i64 n28) ∧
      BIf (decide ((4096 : Int) ≤ n28)) (
        K (Value.tuple ⟨[(Value.int .i64 (0 : Int)), (Slc.v (⟨none, 0, 0⟩ : Slc)), (Value.int .i64 (13 : Int))]⟩) w10) (
        newS w10 (.cells ⟨[]⟩ 104) fun r29 w30 =>
        ∃ (I31 : (Slc) → (Int) → World → Prop) (mu32 : (Slc) → (Int) → World → Nat), I31 ((⟨(some (⟨r29, 0, none⟩ : Addr)), 0, 0⟩ : Slc)) ((0 : Int)) w30 ∧ (
        ∀ out33 : Slc, ∀ i34 : Int, ∀ w35 : World, I31 out33 i34 w35 → ∀ u36 u37 u38 u39 u40 u41 u42 u43 u44 u45 u46 u47 u48 u49 u50 u51 u52 u53 u54 u55 u56 u57 u58 u59 u60 u61 u62 u63 u64 u65 u66 u67 u68 u69 : Value,
          BIf (decide (i34 < ((streams3.l : Nat) : Int))) (
            needSome streams3.p fun a70 =>
            0 ≤ i34 ∧ i34 < ((streams3.l : Nat) : Int) ∧
            ∃ n71 : Int, World.cell? w35 (Addr.add a70 ((Int.toNat i34) * 1)) = some (Value.int .i64 n71) ∧
            needSome s1 fun a72 =>
            0 ≤ n71 ∧ n71 < ((13 : Nat) : Int) ∧
            ∃ s73 : Slc, World.cell? w35 (Addr.add (a72.add 2) ((Int.toNat n71) * 1)) = some (Slc.v s73) ∧
            Calls Tryd.prog fn_tidewaterref13_newest ⟨[(Slc.v s73)]⟩ w35 fun e74 w75 =>
            ∃ s76 : Slc, e74 = .returned (Slc.v s76) ∧
            newS w75 (.cells ⟨[(Value.int .i64 n71), (Slc.v s76)]⟩ 104) fun r77 w78 =>
            appendS 2 104 [(Value.int .i64 (0 : Int)), (Slc.v (⟨none, 0, 0⟩ : Slc))] w78 out33 (.slc (⟨(some (⟨r77, 0, none⟩ : Addr)), 1, 1⟩ : Slc)) fun s79 w80 =>
            needSome s1 fun a81 =>
            ∃ n82 : Int, World.cell? (World.drew w80) (a81.add 1) = some (Value.int .i64 n82) ∧
            needSome s1 fun a83 =>
            0 ≤ n71 ∧ n71 < ((13 : Nat) : Int) ∧
            ∃ s84 : Slc, World.cell? (World.drew w80) (Addr.add (a83.add 2) ((Int.toNat n71) * 1)) = some (Slc.v s84) ∧
            needSome s1 fun a85 =>
            newS (World.drew w80) (.cells ⟨[(Value.int .i64 n82)]⟩ 3) fun r86 w87 =>
            (∃ s88 : Slc, World.cell? w87 (Addr.add (a83.add 2) ((Int.toNat n71) * 1)) = some (Slc.v s88) ∧
            (Slc.v s88) = (Slc.v s84)) ∧
            appendS 1 3 [(Value.int .i64 (0 : Int))] w87 (⟨(some (⟨r86, 0, none⟩ : Addr)), 1, 1⟩ : Slc) (.slc s84) fun s89 w90 =>
            0 ≤ n71 ∧ n71 < ((13 : Nat) : Int) ∧
            canW w90 (Addr.add (a85.add 2) ((Int.toNat n71) * 1)) 1 ∧ ∀ w91 : World, w91 = World.setCell w90 (Addr.add (a85.add 2) ((Int.toNat n71) * 1)) (Slc.v s89) →
            inR .i64 (i34 + (1 : Int)) ∧
            (I31 (s79) ((i34 + (1 : Int))) w91 ∧ mu32 (s79) ((i34 + (1 : Int))) w91 < mu32 out33 i34 w35)) (
            needSome s1 fun a92 =>
            ∃ n93 : Int, World.cell? w35 (a92.add 1) = some (Value.int .i64 n93) ∧
            inR .i64 (n93 + (1 : Int)) ∧
            needSome s1 fun a94 =>
            canW w35 (a94.add 1) 1 ∧ ∀ w95 : World, w95 = World.setCell w35 (a94.add 1) (Value.int .i64 (n93 + (1 : Int))) →
            needSome s1 fun a96 =>
            ∃ n97 : Int, World.cell? w95 (a96.add 1) = some (Value.int .i64 n97) ∧
            inR .i64 (n97 - (1 : Int)) ∧
            K (Value.tuple ⟨[(Value.int .i64 (n97 - (1 : Int))), (Slc.v out33), (Value.int .i64 (0 : Int))]⟩) w95)))))

theorem tidewaterref13_Sequencer_Take_eq (s1 : Option Addr) (epoch2 : Int) (streams3 : Slc) (w : World) (K : Value → World → Prop) : tidewaterref13_Sequencer_Take s1 epoch2 streams3 w K = denF Tryd.prog callB Tryd.f50 (.two .none (.two .none (.cut [] [6, 7, 8, 18, 19, 20, 21, 22, 23, 24, 25, 26, 27, 28, 29, 30] .none (.two .none (.two .none (.two (.two .none (.one (.loop [(9, Sh.slc), (39, (Sh.int .i64))] [11, 40, 41, 42, 43, 44, 45, 46, 47, 48, 49, 50, 51, 52, 53, 54, 55, 56, 57, 58, 59, 60, 61, 62, 63, 64, 65, 66, 67, 68, 69, 70, 71, 72] .none))) .none)))))) [(Value.pointer s1), (Value.int .i64 epoch2), (Slc.v streams3)] w K := by kernel_rfl
theorem tidewaterref13_Sequencer_Take_ok (s1 : Option Addr) (epoch2 : Int) (streams3 : Slc) {w : World} {R : Ending → World → Prop} (h : tidewaterref13_Sequencer_Take s1 epoch2 streams3 w fun v w' => R (.returned v) w') : Calls Tryd.prog fn_tidewaterref13_Sequencer_Take ⟨[(Value.pointer s1), (Value.int .i64 epoch2), (Slc.v streams3)]⟩ w R :=
  calls_of_den callB_ok mixed Tryd.func50 (tidewaterref13_Sequencer_Take_eq s1 epoch2 streams3 w _ ▸ h)

/-- tidewater/tidewaterref06.SameBacks -/
def tidewaterref06_SameBacks (a1 : Slc) (b2 : Slc) (w : World) (K : Value → World → Prop) : Prop :=
  BIf (!decide (((a1.l : Nat) : Int) = ((b2.l : Nat) : Int))) (
    K (Value.bool false) w) (
    ∃ (I3 : (Int) → World → Prop) (mu4 : (Int) → World → Nat), I3 ((0 : Int)) w ∧ (
    ∀ i5 : Int, ∀ w6 : World, I3 i5 w6 → ∀ u7 u8 u9 u10 u11 u12 u13 u14 u15 u16 u17 u18 u19 u20 u21 u22 u23 u24 u25 u26 u27 u28 u29 u30 u31 u32 u33 u34 u35 u36 : Value,
      BIf (decide (i5 < ((a1.l : Nat) : Int))) (
        needSome a1.p fun a37 =>
        0 ≤ i5 ∧ i5 < ((a1.l : Nat) : Int) ∧
        ∃ n38 : Int, World.cell? (World.drew w6) (Addr.add a37 ((Int.toNat i5) * 2)) = some (Value.int .i64 n38) ∧
        needSome b2.p fun a39 =>
        0 ≤ i5 ∧ i5 < ((b2.l : Nat) : Int) ∧
        ∃ n40 : Int, World.cell? (World.drew w6) (Addr.add a39 ((Int.toNat i5) * 2)) = some (Value.int .i64 n40) ∧
        BIf (!decide (n38 = n40)) (
          K (Value.bool false) (World.drew w6)) (
          needSome a1.p fun a41 =>
          0 ≤ i5 ∧ i5 < ((a1.l : Nat) : Int) ∧
          ∃ s42 : Slc, World.cell? (World.drew w6) ((Addr.add a41 ((Int.toNat i5) * 2)).add 1) = some (Slc.v s42) ∧
          needSome b2.p fun a43 =>
          0 ≤ i5 ∧ i5 < ((b2.l : Nat) : Int) ∧
          ∃ s44 : Slc, World.cell? (World.drew w6) ((Addr.add a43 ((Int.toNat i5) * 2)).add 1) = some (Slc.v s44) ∧
          Calls Tryd.prog fn_tidewaternum_SameInts ⟨[(Slc.v s42), (Slc.v s44)]⟩ (World.drew w6) fun e45 w46 =>
          ∃ b47 : Bool, e45 = .returned (Value.bool b47) ∧
          BIf (!b47) (
            K (Value.bool false) w46) (
            inR .i64 (i5 + (1 : Int)) ∧
            (I3 ((i5 + (1 : Int))) w46 ∧ mu4 ((i5 + (1 : Int))) w46 < mu4 i5 w6)))) (
        K (Value.bool true) w6)))

theorem tidewaterref06_SameBacks_eq (a1 : Slc) (b2 : Slc) (w : World) (K : Value → World → Prop) : tidewaterref06_SameBacks a1 b2 w K = denF Tryd.prog callB Tryd.f51 (.two .none (.two .none (.two (.two .none (.one (.loop [(13, (Sh.int .i64))] [4, 5, 14, 15, 16, 17, 18, 19, 20, 21, 22, 23, 24, 25, 26, 27, 28, 29, 30, 31, 32, 33, 34, 35, 36, 37, 38, 39, 40, 41] .none))) .none))) [(Slc.v a1), (Slc.v b2)] w K := by kernel_rfl
theorem tidewaterref06_SameBacks_ok (a1 : Slc) (b2 : Slc) {w : World} {R : Ending → World → Prop} (h : tidewaterref06_SameBacks a1 b2 w fun v w' => R (.returned v) w') : Calls Tryd.prog fn_tidewaterref06_SameBacks ⟨[(Slc.v a1), (Slc.v b2)]⟩ w R :=
  calls_of_den callB_ok mixed Tryd.func51 (tidewaterref06_SameBacks_eq a1 b2 w _ ▸ h)

/-- tidewater/tidewaterlaw13.same -/
def tidewaterlaw13_same (s1 : Option Addr) (w2 : Option Addr) (w : World) (K : Value → World → Prop) : Prop :=
  needSome w2 fun a3 =>
  ∃ n4 : Int, World.cell? w a3 = some (Value.int .i64 n4) ∧
  Calls Tryd.prog fn_token_Sequencer_Next ⟨[(Value.pointer s1), (Value.int .i64 n4)]⟩ w fun e5 w6 =>
  ∃ n7 : Int, ∃ e8 : Value, e5 = .returned (Value.tuple ⟨[(Value.int .i64 n7), e8]⟩) ∧
  needSome w2 fun a9 =>
  ∃ n10 : Int, World.cell? w6 a9 = some (Value.int .i64 n10) ∧
  0 ≤ n10 ∧ 0 ≤ (1 : Int) ∧ inR .i64 n10 ∧ inR .i64 (1 : Int) ∧
  Calls Tryd.prog fn_token_Sequencer_Next ⟨[(Value.pointer s1), (Value.int .i64 (bitsI .xor n10 (1 : Int)))]⟩ w6 fun e11 w12 =>
  ∃ n13 : Int, ∃ e14 : Value, e11 = .returned (Value.tuple ⟨[(Value.int .i64 n13), e14]⟩) ∧
  ∃ J15 : World → Prop,
  (
    needSome w2 fun a16 =>
    ∃ n17 : Int, World.cell? (World.drew w12) (a16.add 1) = some (Value.int .i64 n17) ∧
    BIf (!decide (n7 = n17)) (
      K (Value.bool false) (World.drew w12)) (
      isI e8 ∧
      BIf (!isNilI e8) (
        K (Value.bool false) (World.drew w12)) (
        needSome w2 fun a18 =>
        ∃ n19 : Int, World.cell? (World.drew w12) a18 = some (Value.int .i64 n19) ∧
        Calls Tryd.prog fn_token_Sequencer_Epoch ⟨[(Value.pointer s1)]⟩ (World.drew w12) fun e20 w21 =>
        ∃ n22 : Int, e20 = .returned (Value.int .i64 n22) ∧
        (∃ n23 : Int, World.cell? w21 a18 = some (Value.int .i64 n23) ∧
        (Value.int .i64 n23) = (Value.int .i64 n19)) ∧
        BIf (!decide (n22 = n19)) (
          K (Value.bool false) w21) (
          Calls Tryd.prog fn_tidewaternum_Num ⟨[e14]⟩ w21 fun e24 w25 =>
          ∃ n26 : Int, e24 = .returned (Value.int .i64 n26) ∧
          BIf (!decide (n26 = (8 : Int))) (
            K (Value.bool false) w25) (
            Calls Tryd.prog fn_token_Sequencer_Backs ⟨[(Value.pointer s1)]⟩ w25 fun e27 w28 =>
            ∃ s29 : Slc, e27 = .returned (Slc.v s29) ∧
            Calls Tryd.prog fn_tidewaterref13_Sequencer_Backs ⟨[(Value.pointer w2)]⟩ w28 fun e30 w31 =>
            ∃ s32 : Slc, e30 = .returned (Slc.v s32) ∧
            Calls Tryd.prog fn_tidewaterref06_SameBacks ⟨[(Slc.v s29), (Slc.v s32)]⟩ w31 fun e33 w34 =>
            ∃ b35 : Bool, e33 = .returned (Value.bool b35) ∧
            BIf (!b35) (
              K (Value.bool false) w34) (
              J15 w34)))))) ∧ (
  ∀ w36 : World, J15 w36 → ∀ u37 u38 u39 u40 u41 u42 u43 u44 u45 u46 u47 u48 u49 u50 u51 u52 u53 u54 u55 u56 u57 u58 u59 u60 u61 u62 u63 u64 u65 u66 u67 u68 u69 : Value,
    ∃ (I70 : (Int) → World → Prop) (mu71 : (Int) → World → Nat), I70 ((0 : Int)) w36 ∧ (
    ∀ i72 : Int, ∀ w73 : World, I70 i72 w73 → ∀ u74 u75 u76 u77 u78 u79 u80 u81 u82 u83 u84 u85 u86 u87 u88 u89 u90 u91 u92 u93 u94 u95 u96 u97 u98 u99 u100 : Value,
      BIf (decide (i72 < (13 : Int))) (
        needSome w2 fun a101 =>
        ∃ n102 : Int, World.cell? w73 a101 = some (Value.int .i64 n102) ∧
        Calls Tryd.prog fn_token_Sequencer_Newest ⟨[(Value.pointer s1), (Value.int .i64 n102), (Value.int .i64 i72)]⟩ w73 fun e103 w104 =>
        ∃ s105 : Slc, ∃ e106 : Value, e103 = .returned (Value.tuple ⟨[(Slc.v s105), e106]⟩) ∧
        isI e106 ∧
        BIf (!isNilI e106) (
          K (Value.bool false) w104) (
          Calls Tryd.prog fn_tidewaterref13_Sequencer_Newest ⟨[(Value.pointer w2), (Value.int .i64 i72)]⟩ w104 fun e107 w108 =>
          ∃ s109 : Slc, e107 = .returned (Slc.v s109) ∧
          Calls Tryd.prog fn_tidewaternum_SameInts ⟨[(Slc.v s105), (Slc.v s109)]⟩ w108 fun e110 w111 =>
          ∃ b112 : Bool, e110 = .returned (Value.bool b112) ∧
          BIf (!b112) (
            K (Value.bool false) w111) (
            inR .i64 (i72 + (1 : Int)) ∧
            (I70 ((i72 + (1 : Int))) w111 ∧ mu71 ((i72 + (1 : Int))) w111 < mu71 i72 w73)))) (
        needSome w2 fun a113 =>
        ∃ n114 : Int, World.cell? w73 a113 = some (Value.int .i64 n114) ∧
        Calls Tryd.prog fn_token_Sequencer_Newest ⟨[(Value.pointer s1), (Value.int .i64 n114), (Value.int .i64 (13 : Int))]⟩ w73 fun e115 w116 =>
        ∃ s117 : Slc, ∃ e118 : Value, e115 = .returned (Value.tuple ⟨[(Slc.v s117), e118]⟩) ∧
        needSome w2 fun a119 =>
        ∃ n120 : Int, World.cell? w116 a119 = some (Value.int .i64 n120) ∧
        Calls Tryd.prog fn_token_Sequencer_Newest ⟨[(Value.pointer s1), (Value.int .i64 n120), (Value.int .i64 (-1 : Int))]⟩ w116 fun e121 w122 =>
        ∃ s123 : Slc, ∃ e124 : Value, e121 = .returned (Value.tuple ⟨[(Slc.v s123), e124]⟩) ∧
        needSome w2 fun a125 =>
        ∃ n126 : Int, World.cell? w122 a125 = some (Value.int .i64 n126) ∧
        0 ≤ n126 ∧ 0 ≤ (1 : Int) ∧ inR .i64 n126 ∧ inR .i64 (1 : Int) ∧
        Calls Tryd.prog fn_token_Sequencer_Newest ⟨[(Value.pointer s1), (Value.int .i64 (bitsI .xor n126 (1 : Int))), (Value.int .i64 (0 : Int))]⟩ w122 fun e127 w128 =>
        ∃ s129 : Slc, ∃ e130 : Value, e127 = .returned (Value.tuple ⟨[(Slc.v s129), e130]⟩) ∧
        Calls Tryd.prog fn_tidewaternum_Num ⟨[e118]⟩ w128 fun e131 w132 =>
        ∃ n133 : Int, e131 = .returned (Value.int .i64 n133) ∧
        BIf (decide (n133 = (1 : Int))) (
          Calls Tryd.prog fn_tidewaternum_Num ⟨[e124]⟩ w132 fun e134 w135 =>
          ∃ n136 : Int, e134 = .returned (Value.int .i64 n136) ∧
          BIf (decide (n136 = (1 : Int))) (
            Calls Tryd.prog fn_tidewaternum_Num ⟨[e130]⟩ w135 fun e137 w138 =>
            ∃ n139 : Int, e137 = .returned (Value.int .i64 n139) ∧
            K (Value.bool (decide (n139 = (8 : Int)))) w138) (
            K (Value.bool false) w135)) (
          K (Value.bool false) w132))))

theorem tidewaterlaw13_same_eq (s1 : Option Addr) (w2 : Option Addr) (w : World) (K : Value → World → Prop) : tidewaterlaw13_same s1 w2 w K = denF Tryd.prog callB Tryd.f52 (.two .none (.two .none (.two .none (.cut [] [4, 37, 38, 39, 40, 41, 42, 43, 44, 45, 46, 47, 48, 49, 50, 51, 52, 53, 54, 55, 56, 57, 58, 59, 60, 61, 62, 63, 64, 65, 66, 67, 68] .none (.two (.two .none (.one (.loop [(69, (Sh.int .i64))] [4, 9, 10, 11, 70, 71, 72, 73, 74, 75, 76, 77, 78, 79, 80, 81, 82, 83, 84, 85, 86, 87, 88, 89, 90, 91, 92] .none))) .none))))) [(Value.pointer s1), (Value.pointer w2)] w K := by kernel_rfl
theorem tidewaterlaw13_same_ok (s1 : Option Addr) (w2 : Option Addr) {w : World} {R : Ending → World → Prop} (h : tidewaterlaw13_same s1 w2 w fun v w' => R (.returned v) w') : Calls Tryd.prog fn_tidewaterlaw13_same ⟨[(Value.pointer s1), (Value.pointer w2)]⟩ w R :=
  calls_of_den callB_ok mixed Tryd.func52 (tidewaterlaw13_same_eq s1 w2 w _ ▸ h)

/-- tidewater/tidewaterlaw13.long -/
def tidewaterlaw13_long (x1 : Int) (x2 : Int) (x3 : Slc) (list4 : Slc) (w : World) (K : Value → World → Prop) : Prop :=
  newS w (.cells ⟨[(Value.int .i64 x1), (Value.int .i64 x2), (Slc.v x3)]⟩ 107) fun r5 w6 =>
  ∃ J7 : World → Prop,
  (
    ∃ s8 : Slc, World.cell? w6 (⟨r5, 2, none⟩ : Addr) = some (Slc.v s8) ∧
    BIf (decide ((20 : Int) < ((s8.l : Nat) : Int))) (
      K (Value.bool true) w6) (
      BIf (decide ((60 : Int) < ((list4.l : Nat) : Int))) (
        K (Value.bool true) w6) (
        J7 w6))) ∧ (
  ∀ w9 : World, J7 w9 → ∀ u10 u11 u12 u13 u14 u15 u16 u17 u18 u19 : Value,
    ∃ s20 : Slc, World.cell? w9 (⟨r5, 2, none⟩ : Addr) = some (Slc.v s20) ∧
    ∃ (I21 : (Int) → World → Prop) (mu22 : (Int) → World → Nat), I21 ((0 : Int)) w9 ∧ (
    ∀ i23 : Int, ∀ w24 : World, I21 i23 w24 → ∀ u25 u26 u27 u28 u29 u30 u31 u32 u33 u34 : Value,
      BIf (decide (i23 < ((s20.l : Nat) : Int))) (
        needSome s20.p fun a35 =>
        0 ≤ i23 ∧ i23 < ((s20.l : Nat) : Int) ∧
        ∃ n36 : Int, ∃ s37 : Slc, rowAt w24 (Addr.add a35 ((Int.toNat i23) * 2)) 0 [(Value.int .i64 n36), (Slc.v s37)] ∧
        newS w24 (.cells ⟨[(Value.int .i64 (0 : Int)), (Slc.v (⟨none, 0, 0⟩ : Slc))]⟩ 104) fun r38 w39 =>
        canW w39 (⟨r38, 0, none⟩ : Addr) 2 ∧ ∀ w40 : World, w40 = setCells w39 (⟨r38, 0, none⟩ : Addr) 0 [(Value.int .i64 n36), (Slc.v s37)] →
        ∃ s41 : Slc, World.cell? w40 (⟨r38, 1, none⟩ : Addr) = some (Slc.v s41) ∧
        BIf (decide ((20 : Int) < ((s41.l : Nat) : Int))) (
          K (Value.bool true) w40) (
          inR .i64 (i23 + (1 : Int)) ∧
          (I21 ((i23 + (1 : Int))) w40 ∧ mu22 ((i23 + (1 : Int))) w40 < mu22 i23 w24))) (
        ∃ (I42 : (Int) → World → Prop) (mu43 : (Int) → World → Nat), I42 ((0 : Int)) w24 ∧ (
        ∀ i44 : Int, ∀ w45 : World, I42 i44 w45 → ∀ u46 u47 u48 u49 u50 u51 u52 u53 u54 u55 : Value,
          BIf (decide (i44 < ((list4.l : Nat) : Int))) (
            needSome list4.p fun a56 =>
            0 ≤ i44 ∧ i44 < ((list4.l : Nat) : Int) ∧
            ∃ n57 : Int, ∃ s58 : Slc, rowAt w45 (Addr.add a56 ((Int.toNat i44) * 2)) 0 [(Value.int .i64 n57), (Slc.v s58)] ∧
            newS w45 (.cells ⟨[(Value.int .i64 (0 : Int)), (Slc.v (⟨none, 0, 0⟩ : Slc))]⟩ 89) fun r59 w60 =>
            canW w60 (⟨r59, 0, none⟩ : Addr) 2 ∧ ∀ w61 : World, w61 = setCells w60 (⟨r59, 0, none⟩ : Addr) 0 [(Value.int .i64 n57), (Slc.v s58)] →
            ∃ s62 : Slc, World.cell? w61 (⟨r59, 1, none⟩ : Addr) = some (Slc.v s62) ∧
            BIf (decide ((10 : Int) < ((s62.l : Nat) : Int))) (
              K (Value.bool true) w61) (
              inR .i64 (i44 + (1 : Int)) ∧
              (I42 ((i44 + (1 : Int))) w61 ∧ mu43 ((i44 + (1 : Int))) w61 < mu43 i44 w45))) (
            K (Value.bool false) w45)))))

theorem tidewaterlaw13_long_eq (x1 : Int) (x2 : Int) (x3 : Slc) (list4 : Slc) (w : World) (K : Value → World → Prop) : tidewaterlaw13_long x1 x2 x3 list4 w K = denF Tryd.prog callB Tryd.f48 (.two .none (.cut [] [4, 9, 10, 11, 12, 13, 14, 15, 16, 17] .none (.two (.two .none (.one (.loop [(21, (Sh.int .i64))] [4, 6, 22, 23, 24, 25, 26, 27, 28, 29] .none))) (.two (.two .none (.one (.loop [(32, (Sh.int .i64))] [4, 8, 33, 34, 35, 36, 37, 38, 39, 40] .none))) .none)))) [(Value.agg ⟨[(Value.int .i64 x1), (Value.int .i64 x2), (Slc.v x3)]⟩), (Slc.v list4)] w K := by kernel_rfl
theorem tidewaterlaw13_long_ok (x1 : Int) (x2 : Int) (x3 : Slc) (list4 : Slc) {w : World} {R : Ending → World → Prop} (h : tidewaterlaw13_long x1 x2 x3 list4 w fun v w' => R (.returned v) w') : Calls Tryd.prog fn_tidewaterlaw13_long ⟨[(Value.agg ⟨[(Value.int .i64 x1), (Value.int .i64 x2), (Slc.v x3)]⟩), (Slc.v list4)]⟩ w R :=
  calls_of_den callB_ok mixed Tryd.func48 (tidewaterlaw13_long_eq x1 x2 x3 list4 w _ ▸ h)

/-- tidewater/tidewaterlaw13.TokenApart -/
def tidewaterlaw13_TokenApart (list1 : Slc) (stream2 : Int) (w : World) (K : Value → World → Prop) : Prop :=
  Calls Tryd.prog fn_tidewaterlaw13_alive ⟨[]⟩ w fun e3 w4 =>
  ∃ b5 : Bool, e3 = .returned (Value.bool b5) ∧
  BIf (!b5) (
    K (Value.bool false) w4) (
    BIf (decide ((60 : Int) < ((list1.l : Nat) : Int))) (
      K (Value.bool true) w4) (
      Calls Tryd.prog fn_token_New ⟨[(Value.int .i64 (1 : Int)), (Value.int .i64 (0 : Int)), (Slc.v (⟨none, 0, 0⟩ : Slc))]⟩ w4 fun e6 w7 =>
      ∃ p8 : Option Addr, ∃ e9 : Value, e6 = .returned (Value.tuple ⟨[(Value.pointer p8), e9]⟩) ∧
      isI e9 ∧
      BIf (!isNilI e9) (
        K (Value.bool false) w7) (
        0 ≤ (IntKind.wrap .u64 stream2) ∧ 0 < (13 : Int) ∧
        ∃ (I10 : (Int) → World → Prop) (mu11 : (Int) → World → Nat), I10 ((0 : Int)) w7 ∧ (
        ∀ i12 : Int, ∀ w13 : World, I10 i12 w13 → ∀ u14 u15 u16 u17 u18 u19 u20 u21 u22 u23 u24 u25 u26 u27 u28 u29 u30 u31 u32 u33 u34 u35 u36 u37 u38 u39 u40 u41 u42 u43 u44 u45 u46 u47 u48 u49 u50 u51 u52 u53 u54 u55 u56 u57 u58 u59 u60 u61 u62 u63 u64 u65 u66 u67 u68 u69 u70 u71 u72 u73 u74 u75 u76 u77 u78 u79 u80 u81 u82 u83 u84 u85 u86 u87 u88 u89 u90 u91 u92 u93 u94 u95 u96 u97 u98 u99 u100 u101 u102 u103 u104 u105 u106 u107 u108 u109 u110 u111 u112 u113 u114 u115 u116 u117 u118 u119 u120 u121 : Value,
          BIf (decide (i12 < ((list1.l : Nat) : Int))) (
            needSome list1.p fun a122 =>
            0 ≤ i12 ∧ i12 < ((list1.l : Nat) : Int) ∧
            ∃ n123 : Int, ∃ s124 : Slc, rowAt w13 (Addr.add a122 ((Int.toNat i12) * 2)) 0 [(Value.int .i64 n123), (Slc.v s124)] ∧
            newS w13 (.cells ⟨[(Value.int .i64 (0 : Int)), (Slc.v (⟨none, 0, 0⟩ : Slc))]⟩ 89) fun r125 w126 =>
            canW w126 (⟨r125, 0, none⟩ : Addr) 2 ∧ ∀ w127 : World, w127 = setCells w126 (⟨r125, 0, none⟩ : Addr) 0 [(Value.int .i64 n123), (Slc.v s124)] →
            ∃ s128 : Slc, World.cell? w127 (⟨r125, 1, none⟩ : Addr) = some (Slc.v s128) ∧
            BIf (decide ((10 : Int) < ((s128.l : Nat) : Int))) (
              K (Value.bool true) w127) (
              Calls Tryd.prog fn_token_Sequencer_Copy ⟨[(Value.pointer p8)]⟩ w127 fun e129 w130 =>
              ∃ p131 : Option Addr, e129 = .returned (Value.pointer p131) ∧
              Calls Tryd.prog fn_token_Sequencer_Newest ⟨[(Value.pointer p8), (Value.int .i64 (1 : Int)), (Value.int .i64 (IntKind.wrap .i64 ((IntKind.wrap .u64 stream2) % (13 : Int))))]⟩ w130 fun e132 w133 =>
              ∃ s134 : Slc, ∃ e135 : Value, e132 = .returned (Value.tuple ⟨[(Slc.v s134), e135]⟩) ∧
              Calls Tryd.prog fn_token_Sequencer_Next ⟨[(Value.pointer p8), (Value.int .i64 (1 : Int))]⟩ w133 fun e136 w137 =>
              ∃ n138 : Int, ∃ e139 : Value, e136 = .returned (Value.tuple ⟨[(Value.int .i64 n138), e139]⟩) ∧
              ∃ s140 : Slc, World.cell? w137 (⟨r125, 1, none⟩ : Addr) = some (Slc.v s140) ∧
              Calls Tryd.prog fn_token_Sequencer_Take ⟨[(Value.pointer p8), (Value.int .i64 (1 : Int)), (Slc.v s140)]⟩ w137 fun e141 w142 =>
              ∃ n143 : Int, ∃ s144 : Slc, ∃ e145 : Value, e141 = .returned (Value.tuple ⟨[(Value.int .i64 n143), (Slc.v s144), e145]⟩) ∧
              Calls Tryd.prog fn_token_Sequencer_Newest ⟨[(Value.pointer p8), (Value.int .i64 (1 : Int)), (Value.int .i64 (IntKind.wrap .i64 ((IntKind.wrap .u64 stream2) % (13 : Int))))]⟩ w142 fun e146 w147 =>
              ∃ s148 : Slc, ∃ e149 : Value, e146 = .returned (Value.tuple ⟨[(Slc.v s148), e149]⟩) ∧
              Calls Tryd.prog fn_token_Sequencer_Newest ⟨[(Value.pointer p131), (Value.int .i64 (1 : Int)), (Value.int .i64 (IntKind.wrap .i64 ((IntKind.wrap .u64 stream2) % (13 : Int))))]⟩ w147 fun e150 w151 =>
              ∃ s152 : Slc, ∃ e153 : Value, e150 = .returned (Value.tuple ⟨[(Slc.v s152), e153]⟩) ∧
              Calls Tryd.prog fn_token_Sequencer_Next ⟨[(Value.pointer p131), (Value.int .i64 (1 : Int))]⟩ w151 fun e154 w155 =>
              ∃ n156 : Int, ∃ e157 : Value, e154 = .returned (Value.tuple ⟨[(Value.int .i64 n156), e157]⟩) ∧
              ∃ J158 : World → Prop,
              (
                Calls Tryd.prog fn_tidewaternum_SameInts ⟨[(Slc.v s152), (Slc.v s134)]⟩ w155 fun e159 w160 =>
                ∃ b161 : Bool, e159 = .returned (Value.bool b161) ∧
                BIf (!b161) (
                  K (Value.bool false) w160) (
                  BIf (!decide (n156 = n138)) (
                    K (Value.bool false) w160) (
                    J158 w160))) ∧ (
              ∀ w162 : World, J158 w162 → ∀ u163 u164 u165 u166 u167 u168 u169 u170 u171 u172 : Value,
                ∃ J173 : (Bool) → World → Prop,
                (
                  isI e145 ∧
                  BIf (isNilI e145) (
                    ∃ s174 : Slc, World.cell? w162 (⟨r125, 1, none⟩ : Addr) = some (Slc.v s174) ∧
                    Calls Tryd.prog fn_tidewaternum_In ⟨[(Slc.v s174), (Value.int .i64 (IntKind.wrap .i64 ((IntKind.wrap .u64 stream2) % (13 : Int))))]⟩ w162 fun e175 w176 =>
                    ∃ b177 : Bool, e175 = .returned (Value.bool b177) ∧
                    J173 (b177) w176) (
                    J173 (false) w162)) ∧ (
                ∀ has178 : Bool, ∀ w179 : World, J173 has178 w179 → ∀ u180 u181 u182 u183 u184 u185 u186 u187 : Value,
                  BIf has178 (
                    BIf (decide (((s148.l : Nat) : Int) = (0 : Int))) (
                      K (Value.bool false) w179) (
                      needSome s148.p fun a188 =>
                      0 ≤ (0 : Int) ∧ (0 : Int) < ((s148.l : Nat) : Int) ∧
                      ∃ n189 : Int, World.cell? w179 a188 = some (Value.int .i64 n189) ∧
                      BIf (!decide (n189 = n143)) (
                        K (Value.bool false) w179) (
                        BIf (!decide (n143 = n138)) (
                          K (Value.bool false) w179) (
                          BIf (!has178) (
                            Calls Tryd.prog fn_tidewaternum_SameInts ⟨[(Slc.v s148), (Slc.v s134)]⟩ w179 fun e190 w191 =>
                            ∃ b192 : Bool, e190 = .returned (Value.bool b192) ∧
                            BIf (!b192) (
                              K (Value.bool false) w191) (
                              inR .i64 (i12 + (1 : Int)) ∧
                              (I10 ((i12 + (1 : Int))) w191 ∧ mu11 ((i12 + (1 : Int))) w191 < mu11 i12 w13))) (
                            inR .i64 (i12 + (1 : Int)) ∧
                            (I10 ((i12 + (1 : Int))) w179 ∧ mu11 ((i12 + (1 : Int))) w179 < mu11 i12 w13)))))) (
                    BIf (!has178) (
                      Calls Tryd.prog fn_tidewaternum_SameInts ⟨[(Slc.v s148), (Slc.v s134)]⟩ w179 fun e193 w194 =>
                      ∃ b195 : Bool, e193 = .returned (Value.bool b195) ∧
                      BIf (!b195) (
                        K (Value.bool false) w194) (
                        inR .i64 (i12 + (1 : Int)) ∧
                        (I10 ((i12 + (1 : Int))) w194 ∧ mu11 ((i12 + (1 : Int))) w194 < mu11 i12 w13))) (
                      inR .i64 (i12 + (1 : Int)) ∧
                      (I10 ((i12 + (1 : Int))) w179 ∧ mu11 ((i12 + (1 : Int))) w179 < mu11 i12 w13))))))) (
            K (Value.bool true) w13)))))

theorem tidewaterlaw13_TokenApart_eq (list1 : Slc) (stream2 : Int) (w : World) (K : Value → World → Prop) : tidewaterlaw13_TokenApart list1 stream2 w K = denF Tryd.prog callB Tryd.f7 (.two .none (.two .none (.two .none (.two .none (.two .none (.two .none (.two (.two .none (.one (.loop [(41, (Sh.int .i64))] [4, 8, 9, 10, 11, 12, 13, 14, 15, 16, 17, 18, 19, 20, 21, 22, 23, 42, 43, 44, 45, 46, 47, 48, 49, 50, 51, 52, 53, 54, 55, 56, 57, 58, 59, 60, 61, 62, 63, 64, 65, 66, 67, 68, 69, 70, 71, 72, 73, 74, 75, 76, 77, 78, 79, 80, 81, 82, 83, 84, 85, 86, 87, 88, 89, 90, 91, 92, 93, 94, 95, 96, 97, 98, 99, 100, 101, 102, 103, 104, 105, 106, 107, 108, 109, 110, 111, 112, 113, 114, 115, 116, 117, 118, 119, 120, 121, 122, 123, 124, 125, 126, 127, 128, 129, 130, 131, 132] (.two .none (.two .none (.two (.one (.two .none (.two .none (.two .none (.two .none (.two .none (.two .none (.two .none (.two .none (.two .none (.cut [] [4, 87, 88, 89, 90, 91, 92, 93, 94, 95] .none (.cut [(23, Sh.bool)] [96, 97, 98, 99, 100, 101, 102, 103] .none .none)))))))))))) .none)))))) .none))))))) [(Slc.v list1), (Value.int .i64 stream2)] w K := by kernel_rfl
theorem tidewaterlaw13_TokenApart_ok (list1 : Slc) (stream2 : Int) {w : World} {R : Ending → World → Prop} (h : tidewaterlaw13_TokenApart list1 stream2 w fun v w' => R (.returned v) w') : Calls Tryd.prog fn_tidewaterlaw13_TokenApart ⟨[(Slc.v list1), (Value.int .i64 stream2)]⟩ w R :=
  calls_of_den callB_ok mixed Tryd.func7 (tidewaterlaw13_TokenApart_eq list1 stream2 w _ ▸ h)

/-- tidewater/tidewaterlaw13.TokenPlays -/
def tidewaterlaw13_TokenPlays (x1 : Int) (x2 : Int) (x3 : Slc) (list4 : Slc) (w : World) (K : Value → World → Prop) : Prop :=
  newS w (.cells ⟨[(Value.int .i64 x1), (Value.int .i64 x2), (Slc.v x3)]⟩ 107) fun r5 w6 =>
  Calls Tryd.prog fn_tidewaterlaw13_alive ⟨[]⟩ w6 fun e7 w8 =>
  ∃ b9 : Bool, e7 = .returned (Value.bool b9) ∧
  BIf (!b9) (
    K (Value.bool false) w8) (
    ∃ n10 : Int, ∃ n11 : Int, ∃ s12 : Slc, rowAt w8 (⟨r5, 0, none⟩ : Addr) 0 [(Value.int .i64 n10), (Value.int .i64 n11), (Slc.v s12)] ∧
    Calls Tryd.prog fn_tidewaterlaw13_long ⟨[(Value.agg ⟨[(Value.int .i64 n10), (Value.int .i64 n11), (Slc.v s12)]⟩), (Slc.v list4)]⟩ w8 fun e13 w14 =>
    ∃ b15 : Bool, e13 = .returned (Value.bool b15) ∧
    BIf b15 (
      K (Value.bool true) w14) (
      ∃ n16 : Int, World.cell? w14 (⟨r5, 0, none⟩ : Addr) = some (Value.int .i64 n16) ∧
      ∃ n17 : Int, World.cell? w14 (⟨r5, 1, none⟩ : Addr) = some (Value.int .i64 n17) ∧
      ∃ s18 : Slc, World.cell? w14 (⟨r5, 2, none⟩ : Addr) = some (Slc.v s18) ∧
      Calls Tryd.prog fn_token_New ⟨[(Value.int .i64 n16), (Value.int .i64 n17), (Slc.v s18)]⟩ w14 fun e19 w20 =>
      ∃ p21 : Option Addr, ∃ e22 : Value, e19 = .returned (Value.tuple ⟨[(Value.pointer p21), e22]⟩) ∧
      ∃ n23 : Int, World.cell? w20 (⟨r5, 0, none⟩ : Addr) = some (Value.int .i64 n23) ∧
      ∃ n24 : Int, World.cell? w20 (⟨r5, 1, none⟩ : Addr) = some (Value.int .i64 n24) ∧
      ∃ s25 : Slc, World.cell? w20 (⟨r5, 2, none⟩ : Addr) = some (Slc.v s25) ∧
      Calls Tryd.prog fn_tidewaterref13_New ⟨[(Value.int .i64 n23), (Value.int .i64 n24), (Slc.v s25)]⟩ w20 fun e26 w27 =>
      ∃ p28 : Option Addr, ∃ n29 : Int, e26 = .returned (Value.tuple ⟨[(Value.pointer p28), (Value.int .i64 n29)]⟩) ∧
      ∃ J30 : World → Prop,
      (
        Calls Tryd.prog fn_tidewaternum_Num ⟨[e22]⟩ w27 fun e31 w32 =>
        ∃ n33 : Int, e31 = .returned (Value.int .i64 n33) ∧
        BIf (!decide (n33 = n29)) (
          K (Value.bool false) w32) (
          BIf (!((Option.isNone (p21 : Option Addr)) == (!decide (n29 = (0 : Int))))) (
            K (Value.bool false) w32) (
            J30 w32))) ∧ (
      ∀ w34 : World, J30 w34 → ∀ u35 u36 u37 u38 u39 u40 u41 u42 u43 u44 u45 u46 : Value,
        BIf (!decide (n29 = (0 : Int))) (
          K (Value.bool true) w34) (
          ∃ (I47 : (Int) → World → Prop) (mu48 : (Int) → World → Nat), I47 ((0 : Int)) w34 ∧ (
          ∀ i49 : Int, ∀ w50 : World, I47 i49 w50 → ∀ u51 u52 u53 u54 u55 u56 u57 u58 u59 u60 u61 u62 u63 u64 u65 u66 u67 u68 u69 u70 u71 u72 u73 u74 u75 u76 u77 u78 u79 u80 u81 u82 u83 u84 u85 u86 u87 u88 u89 u90 u91 u92 u93 u94 u95 u96 u97 u98 u99 u100 u101 u102 u103 u104 u105 u106 u107 u108 u109 u110 u111 u112 u113 u114 u115 u116 u117 u118 u119 u120 u121 u122 u123 u124 u125 u126 u127 u128 u129 u130 u131 u132 u133 u134 u135 u136 u137 : Value,
            BIf (decide (i49 < ((list4.l : Nat) : Int))) (
              needSome list4.p fun a138 =>
              0 ≤ i49 ∧ i49 < ((list4.l : Nat) : Int) ∧
              ∃ n139 : Int, ∃ s140 : Slc, rowAt w50 (Addr.add a138 ((Int.toNat i49) * 2)) 0 [(Value.int .i64 n139), (Slc.v s140)] ∧
              newS w50 (.cells ⟨[(Value.int .i64 (0 : Int)), (Slc.v (⟨none, 0, 0⟩ : Slc))]⟩ 89) fun r141 w142 =>
              canW w142 (⟨r141, 0, none⟩ : Addr) 2 ∧ ∀ w143 : World, w143 = setCells w142 (⟨r141, 0, none⟩ : Addr) 0 [(Value.int .i64 n139), (Slc.v s140)] →
              Calls Tryd.prog fn_token_Sequencer_Copy ⟨[(Value.pointer p21)]⟩ w143 fun e144 w145 =>
              ∃ p146 : Option Addr, e144 = .returned (Value.pointer p146) ∧
              ∃ n147 : Int, World.cell? w145 (⟨r141, 0, none⟩ : Addr) = some (Value.int .i64 n147) ∧
              ∃ s148 : Slc, World.cell? w145 (⟨r141, 1, none⟩ : Addr) = some (Slc.v s148) ∧
              Calls Tryd.prog fn_token_Sequencer_Take ⟨[(Value.pointer p21), (Value.int .i64 n147), (Slc.v s148)]⟩ w145 fun e149 w150 =>
              ∃ n151 : Int, ∃ s152 : Slc, ∃ e153 : Value, e149 = .returned (Value.tuple ⟨[(Value.int .i64 n151), (Slc.v s152), e153]⟩) ∧
              ∃ n154 : Int, World.cell? w150 (⟨r141, 0, none⟩ : Addr) = some (Value.int .i64 n154) ∧
              ∃ s155 : Slc, World.cell? w150 (⟨r141, 1, none⟩ : Addr) = some (Slc.v s155) ∧
              Calls Tryd.prog fn_tidewaterref13_Sequencer_Take ⟨[(Value.pointer p28), (Value.int .i64 n154), (Slc.v s155)]⟩ w150 fun e156 w157 =>
              ∃ n158 : Int, ∃ s159 : Slc, ∃ n160 : Int, e156 = .returned (Value.tuple ⟨[(Value.int .i64 n158), (Slc.v s159), (Value.int .i64 n160)]⟩) ∧
              ∃ J161 : World → Prop,
              (
                BIf (!decide (n151 = n158)) (
                  K (Value.bool false) w157) (
                  Calls Tryd.prog fn_tidewaterref06_SameBacks ⟨[(Slc.v s152), (Slc.v s159)]⟩ w157 fun e162 w163 =>
                  ∃ b164 : Bool, e162 = .returned (Value.bool b164) ∧
                  BIf (!b164) (
                    K (Value.bool false) w163) (
                    Calls Tryd.prog fn_tidewaternum_Num ⟨[e153]⟩ w163 fun e165 w166 =>
                    ∃ n167 : Int, e165 = .returned (Value.int .i64 n167) ∧
                    BIf (!decide (n167 = n160)) (
                      K (Value.bool false) w166) (
                      J161 w166)))) ∧ (
              ∀ w168 : World, J161 w168 → ∀ u169 u170 u171 u172 u173 u174 u175 u176 u177 u178 u179 u180 u181 u182 u183 u184 : Value,
                ∃ n185 : Int, World.cell? w168 (⟨r141, 0, none⟩ : Addr) = some (Value.int .i64 n185) ∧
                ∃ s186 : Slc, World.cell? w168 (⟨r141, 1, none⟩ : Addr) = some (Slc.v s186) ∧
                Calls Tryd.prog fn_token_Sequencer_Take ⟨[(Value.pointer p146), (Value.int .i64 n185), (Slc.v s186)]⟩ w168 fun e187 w188 =>
                ∃ n189 : Int, ∃ s190 : Slc, ∃ e191 : Value, e187 = .returned (Value.tuple ⟨[(Value.int .i64 n189), (Slc.v s190), e191]⟩) ∧
                BIf (!decide (n189 = n158)) (
                  K (Value.bool false) w188) (
                  Calls Tryd.prog fn_tidewaterref06_SameBacks ⟨[(Slc.v s190), (Slc.v s159)]⟩ w188 fun e192 w193 =>
                  ∃ b194 : Bool, e192 = .returned (Value.bool b194) ∧
                  BIf (!b194) (
                    K (Value.bool false) w193) (
                    Calls Tryd.prog fn_tidewaternum_Num ⟨[e191]⟩ w193 fun e195 w196 =>
                    ∃ n197 : Int, e195 = .returned (Value.int .i64 n197) ∧
                    BIf (!decide (n197 = n160)) (
                      K (Value.bool false) w196) (
                      Calls Tryd.prog fn_tidewaterlaw13_same ⟨[(Value.pointer p21), (Value.pointer p28)]⟩ w196 fun e198 w199 =>
                      ∃ b200 : Bool, e198 = .returned (Value.bool b200) ∧
                      BIf (!b200) (
                        K (Value.bool false) w199) (
                        Calls Tryd.prog fn_tidewaterlaw13_same ⟨[(Value.pointer p146), (Value.pointer p28)]⟩ w199 fun e201 w202 =>
                        ∃ b203 : Bool, e201 = .returned (Value.bool b203) ∧
                        BIf (!b203) (
                          K (Value.bool false) w202) (
                          inR .i64 (i49 + (1 : Int)) ∧
                          (I47 ((i49 + (1 : Int))) w202 ∧ mu48 ((i49 + (1 : Int))) w202 < mu48 i49 w50)))))))) (
              Calls Tryd.prog fn_tidewaterlaw13_same ⟨[(Value.pointer p21), (Value.pointer p28)]⟩ w50 fun e204 w205 =>
              ∃ b206 : Bool, e204 = .returned (Value.bool b206) ∧
              K (Value.bool b206) w205))))))

theorem tidewaterlaw13_TokenPlays_eq (x1 : Int) (x2 : Int) (x3 : Slc) (list4 : Slc) (w : World) (K : Value → World → Prop) : tidewaterlaw13_TokenPlays x1 x2 x3 list4 w K = denF Tryd.prog callB Tryd.f9 (.two .none (.two .none (.two .none (.two .none (.two .none (.cut [] [4, 43, 44, 45, 46, 47, 48, 49, 50, 51, 52, 53] .none (.two .none (.two (.two .none (.one (.loop [(58, (Sh.int .i64))] [4, 10, 11, 12, 13, 14, 15, 16, 17, 59, 60, 61, 62, 63, 64, 65, 66, 67, 68, 69, 70, 71, 72, 73, 74, 75, 76, 77, 78, 79, 80, 81, 82, 83, 84, 85, 86, 87, 88, 89, 90, 91, 92, 93, 94, 95, 96, 97, 98, 99, 100, 101, 102, 103, 104, 105, 106, 107, 108, 109, 110, 111, 112, 113, 114, 115, 116, 117, 118, 119, 120, 121, 122, 123, 124, 125, 126, 127, 128, 129, 130, 131, 132, 133, 134, 135, 136] (.two .none (.two .none (.two (.one (.two .none (.two .none (.two .none (.two .none (.cut [] [4, 84, 85, 86, 87, 88, 89, 90, 91, 92, 93, 94, 95, 96, 97, 98] .none .none)))))) .none)))))) .none)))))))) [(Value.agg ⟨[(Value.int .i64 x1), (Value.int .i64 x2), (Slc.v x3)]⟩), (Slc.v list4)] w K := by kernel_rfl
theorem tidewaterlaw13_TokenPlays_ok (x1 : Int) (x2 : Int) (x3 : Slc) (list4 : Slc) {w : World} {R : Ending → World → Prop} (h : tidewaterlaw13_TokenPlays x1 x2 x3 list4 w fun v w' => R (.returned v) w') : Calls Tryd.prog fn_tidewaterlaw13_TokenPlays ⟨[(Value.agg ⟨[(Value.int .i64 x1), (Value.int .i64 x2), (Slc.v x3)]⟩), (Slc.v list4)]⟩ w R :=
  calls_of_den callB_ok mixed Tryd.func9 (tidewaterlaw13_TokenPlays_eq x1 x2 x3 list4 w _ ▸ h)

end Go.D
