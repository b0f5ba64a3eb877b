/-
  WHAT IS PROVED: verification conditions of functions of this program, each with its soundness. No further conditions.
-/
import Derived.Test.YtpnchpkklamnnaaDoorBase
set_option linter.unusedSimpArgs false
set_option maxRecDepth 100000
set_option linter.unusedVariables false
namespace Go.D
open Go Go.Proofs
/-- tidewater/wire.table -/
def wire_table  (w : World) (K : Value → World → Prop) : Prop :=
  ∃ v1 : Value, World.cell? w (⟨gl_ErrRange, 0, none⟩ : Addr) = some v1 ∧
  ∃ v2 : Value, World.cell? w (⟨gl_ErrShort, 0, none⟩ : Addr) = some v2 ∧
  ∃ v3 : Value, World.cell? w (⟨gl_ErrLong, 0, none⟩ : Addr) = some v3 ∧
  ∃ v4 : Value, World.cell? w (⟨gl_ErrForm, 0, none⟩ : Addr) = some v4 ∧
  ∃ v5 : Value, World.cell? w (⟨gl_ErrSum, 0, none⟩ : Addr) = some v5 ∧
  ∃ v6 : Value, World.cell? w (⟨gl_ErrRune, 0, none⟩ : Addr) = some v6 ∧
  ∃ v7 : Value, World.cell? w (⟨gl_ErrName, 0, none⟩ : Addr) = some v7 ∧
  ∃ v8 : Value, World.cell? w (⟨gl_ErrSealed, 0, none⟩ : Addr) = some v8 ∧
  ∃ v9 : Value, World.cell? w (⟨gl_ErrWritten, 0, none⟩ : Addr) = some v9 ∧
  ∃ v10 : Value, World.cell? w (⟨gl_ErrUnwritten, 0, none⟩ : Addr) = some v10 ∧
  ∃ v11 : Value, World.cell? w (⟨gl_ErrTrimmed, 0, none⟩ : Addr) = some v11 ∧
  ∃ v12 : Value, World.cell? w (⟨gl_ErrDown, 0, none⟩ : Addr) = some v12 ∧
  ∃ v13 : Value, World.cell? w (⟨gl_ErrFull, 0, none⟩ : Addr) = some v13 ∧
  ∃ v14 : Value, World.cell? w (⟨gl_ErrEpoch, 0, none⟩ : Addr) = some v14 ∧
  ∃ v15 : Value, World.cell? w (⟨gl_ErrMoved, 0, none⟩ : Addr) = some v15 ∧
  ∃ v16 : Value, World.cell? w (⟨gl_ErrNone, 0, none⟩ : Addr) = some v16 ∧
  ∃ v17 : Value, World.cell? w (⟨gl_ErrState, 0, none⟩ : Addr) = some v17 ∧
  ∃ v18 : Value, World.cell? w (⟨gl_ErrClash, 0, none⟩ : Addr) = some v18 ∧
  ∃ v19 : Value, World.cell? w (⟨gl_ErrStale, 0, none⟩ : Addr) = some v19 ∧
  oneK v1 (
  oneK v2 (
  oneK v3 (
  oneK v4 (
  oneK v5 (
  oneK v6 (
  oneK v7 (
  oneK v8 (
  oneK v9 (
  oneK v10 (
  oneK v11 (
  oneK v12 (
  oneK v13 (
  oneK v14 (
  oneK v15 (
  oneK v16 (
  oneK v17 (
  oneK v18 (
  oneK v19 (
  newS w (.cells ⟨[v1, v2, v3, v4, v5, v6, v7, v8, v9, v10, v11, v12, v13, v14, v15, v16, v17, v18, v19]⟩ 26) fun r20 w21 =>
  K (Slc.v (⟨(some (⟨r20, 0, none⟩ : Addr)), 19, 19⟩ : Slc)) w21)))))))))))))))))))

theorem wire_table_eq  (w : World) (K : Value → World → Prop) : wire_table  w K = denF Tryd.prog callB Tryd.f62 .none [] w K := by kernel_rfl
theorem wire_table_ok  {w : World} {R : Ending → World → Prop} (h : wire_table  w fun v w' => R (.returned v) w') : Calls Tryd.prog fn_wire_table ⟨[]⟩ w R :=
  calls_of_den callB_ok mixed Tryd.func62 (wire_table_eq  w _ ▸ h)

/-- tidewater/wire.Number$1 -/
def wire_Number_1 (e1 : Value) (cap2 : Option Addr) (w : World) (K : Value → World → Prop) : Prop :=
  needSome cap2 fun a3 =>
  ∃ v4 : Value, World.cell? w a3 = some v4 ∧
  Calls Tryd.prog fn_errors_Is ⟨[v4, e1]⟩ w fun e5 w6 =>
  ∃ b7 : Bool, e5 = .returned (Value.bool b7) ∧
  K (Value.bool b7) w6

theorem wire_Number_1_eq (e1 : Value) (cap2 : Option Addr) (w : World) (K : Value → World → Prop) : wire_Number_1 e1 cap2 w K = denF Tryd.prog callB Tryd.f64 .none [e1, (Value.pointer cap2)] w K := by kernel_rfl
theorem wire_Number_1_ok (e1 : Value) (cap2 : Option Addr) {w : World} {R : Ending → World → Prop} (h : wire_Number_1 e1 cap2 w fun v w' => R (.returned v) w') : Calls Tryd.prog fn_wire_Number_1 ⟨[e1, (Value.pointer cap2)]⟩ w R :=
  calls_of_den callB_ok mixed Tryd.func64 (wire_Number_1_eq e1 cap2 w _ ▸ h)

/-- slices.IndexFunc[[]error,error] -/
def slices_IndexFunc_error_64 (s1 : Slc) (c2 : Option Addr) (w : World) (K : Value → World → Prop) : Prop :=
  ∃ (I3 : (Int) → World → Prop) (mu4 : (Int) → World → Nat), I3 ((0 : Int)) w ∧ (
  ∀ i5 : Int, ∀ w6 : World, I3 i5 w6 → ∀ u7 u8 u9 u10 u11 u12 u13 u14 u15 u16 u17 u18 : Value,
    BIf (decide (i5 < ((s1.l : Nat) : Int))) (
      needSome s1.p fun a19 =>
      0 ≤ i5 ∧ i5 < ((s1.l : Nat) : Int) ∧
      ∃ v20 : Value, World.cell? w6 (Addr.add a19 ((Int.toNat i5) * 1)) = some v20 ∧
      Calls Tryd.prog fn_wire_Number_1 ⟨[v20, (Value.pointer c2)]⟩ w6 fun e21 w22 =>
      ∃ b23 : Bool, e21 = .returned (Value.bool b23) ∧
      BIf b23 (
        K (Value.int .i64 i5) w22) (
        inR .i64 (i5 + (1 : Int)) ∧
        (I3 ((i5 + (1 : Int))) w22 ∧ mu4 ((i5 + (1 : Int))) w22 < mu4 i5 w6))) (
      K (Value.int .i64 (-1 : Int)) w6))

theorem slices_IndexFunc_error_64_eq (s1 : Slc) (c2 : Option Addr) (w : World) (K : Value → World → Prop) : slices_IndexFunc_error_64 s1 c2 w K = denF Tryd.prog callB Tryd.f63 (.two .none (.two (.two .none (.one (.loop [(8, (Sh.int .i64))] [4, 5, 9, 10, 11, 12, 13, 14, 15, 16, 17, 18] .none))) .none)) [(Slc.v s1), (Value.func (.func 64) ⟨[]⟩ ⟨[(Value.pointer c2)]⟩)] w K := by kernel_rfl
theorem slices_IndexFunc_error_64_ok (s1 : Slc) (c2 : Option Addr) {w : World} {R : Ending → World → Prop} (h : slices_IndexFunc_error_64 s1 c2 w fun v w' => R (.returned v) w') : Calls Tryd.prog fn_slices_IndexFunc_error ⟨[(Slc.v s1), (Value.func (.func 64) ⟨[]⟩ ⟨[(Value.pointer c2)]⟩)]⟩ w R :=
  calls_of_den callB_ok mixed Tryd.func63 (slices_IndexFunc_error_64_eq s1 c2 w _ ▸ h)

/-- tidewater/wire.Number -/
def wire_Number (err1 : Value) (w : World) (K : Value → World → Prop) : Prop :=
  oneK err1 (
  newS w (.cells ⟨[err1]⟩ 26) fun r2 w3 =>
  ∃ v4 : Value, World.cell? w3 (⟨r2, 0, none⟩ : Addr) = some v4 ∧
  isI v4 ∧
  BIf (isNilI v4) (
    K (Value.int .i64 (0 : Int)) w3) (
    Calls Tryd.prog fn_wire_table ⟨[]⟩ w3 fun e5 w6 =>
    ∃ s7 : Slc, e5 = .returned (Slc.v s7) ∧
    Calls Tryd.prog fn_slices_IndexFunc_error ⟨[(Slc.v s7), (Value.func (.func 64) ⟨[]⟩ ⟨[(Value.pointer (some (⟨r2, 0, none⟩ : Addr)))]⟩)]⟩ w6 fun e8 w9 =>
    ∃ n10 : Int, e8 = .returned (Value.int .i64 n10) ∧
    BIf (decide (n10 < (0 : Int))) (
      inR .i64 (((s7.l : Nat) : Int) + (1 : Int)) ∧
      K (Value.int .i64 (((s7.l : Nat) : Int) + (1 : Int))) w9) (
      inR .i64 (n10 + (1 : Int)) ∧
      K (Value.int .i64 (n10 + (1 : Int))) w9)))

theorem wire_Number_eq (err1 : Value) (w : World) (K : Value → World → Prop) : wire_Number err1 w K = denF Tryd.prog callB Tryd.f26 .none [err1] w K := by kernel_rfl
theorem wire_Number_ok (err1 : Value) {w : World} {R : Ending → World → Prop} (h : wire_Number err1 w fun v w' => R (.returned v) w') : Calls Tryd.prog fn_wire_Number ⟨[err1]⟩ w R :=
  calls_of_den callB_ok mixed Tryd.func26 (wire_Number_eq err1 w _ ▸ h)

/-- tidewater/wire.Error -/
def wire_Error (n1 : Int) (w : World) (K : Value → World → Prop) : Prop :=
  Calls Tryd.prog fn_wire_table ⟨[]⟩ w fun e2 w3 =>
  ∃ s4 : Slc, e2 = .returned (Slc.v s4) ∧
  BIf (decide (n1 < (1 : Int))) (
    K Value.nilIface w3) (
    BIf (decide (((s4.l : Nat) : Int) < n1)) (
      K Value.nilIface w3) (
      inR .i64 (n1 - (1 : Int)) ∧
      needSome s4.p fun a5 =>
      0 ≤ (n1 - (1 : Int)) ∧ (n1 - (1 : Int)) < ((s4.l : Nat) : Int) ∧
      ∃ v6 : Value, World.cell? w3 (Addr.add a5 ((Int.toNat (n1 - (1 : Int))) * 1)) = some v6 ∧
      K v6 w3))

theorem wire_Error_eq (n1 : Int) (w : World) (K : Value → World → Prop) : wire_Error n1 w K = denF Tryd.prog callB Tryd.f25 .none [(Value.int .i64 n1)] w K := by kernel_rfl
theorem wire_Error_ok (n1 : Int) {w : World} {R : Ending → World → Prop} (h : wire_Error n1 w fun v w' => R (.returned v) w') : Calls Tryd.prog fn_wire_Error ⟨[(Value.int .i64 n1)]⟩ w R :=
  calls_of_den callB_ok mixed Tryd.func25 (wire_Error_eq n1 w _ ▸ h)

/-- tidewater/tidewaterlaw33.alive -/
def tidewaterlaw33_alive  (w : World) (K : Value → World → Prop) : Prop :=
  ∃ v1 : Value, World.cell? w (⟨gl_ErrRange, 0, none⟩ : Addr) = some v1 ∧
  Calls Tryd.prog fn_wire_Number ⟨[v1]⟩ w fun e2 w3 =>
  ∃ n4 : Int, e2 = .returned (Value.int .i64 n4) ∧
  BIf (decide (n4 = (1 : Int))) (
    Calls Tryd.prog fn_wire_Error ⟨[(Value.int .i64 (0 : Int))]⟩ w3 fun e5 w6 =>
    ∃ e7 : Value, e5 = .returned e7 ∧
    isI e7 ∧
    K (Value.bool (isNilI e7)) w6) (
    K (Value.bool false) w3)

theorem tidewaterlaw33_alive_eq  (w : World) (K : Value → World → Prop) : tidewaterlaw33_alive  w K = denF Tryd.prog callB Tryd.f24 .none [] w K := by kernel_rfl
theorem tidewaterlaw33_alive_ok  {w : World} {R : Ending → World → Prop} (h : tidewaterlaw33_alive  w fun v w' => R (.returned v) w') : Calls Tryd.prog fn_tidewaterlaw33_alive ⟨[]⟩ w R :=
  calls_of_den callB_ok mixed Tryd.func24 (tidewaterlaw33_alive_eq  w _ ▸ h)

/-- tidewater/tidewaterlaw33.WireErrors -/
def tidewaterlaw33_WireErrors (n1 : Int) (w : World) (K : Value → World → Prop) : Prop :=
  Calls Tryd.prog fn_tidewaterlaw33_alive ⟨[]⟩ w fun e2 w3 =>
  ∃ b4 : Bool, e2 = .returned (Value.bool b4) ∧
  BIf (!b4) (
    K (Value.bool false) w3) (
    Calls Tryd.prog fn_wire_Error ⟨[(Value.int .i64 n1)]⟩ w3 fun e5 w6 =>
    ∃ e7 : Value, e5 = .returned e7 ∧
    ∃ J8 : World → Prop,
    (
      BIf (decide (n1 < (1 : Int))) (
        isI e7 ∧
        K (Value.bool (isNilI e7)) w6) (
        BIf (decide ((19 : Int) < n1)) (
          isI e7 ∧
          K (Value.bool (isNilI e7)) w6) (
          J8 w6))) ∧ (
    ∀ w9 : World, J8 w9 → ∀ u10 u11 u12 u13 u14 u15 u16 u17 u18 : Value,
      isI e7 ∧
      BIf (!isNilI e7) (
        Calls Tryd.prog fn_wire_Number ⟨[e7]⟩ w9 fun e19 w20 =>
        ∃ n21 : Int, e19 = .returned (Value.int .i64 n21) ∧
        BIf (decide (n21 = n1)) (
          Calls Tryd.prog fn_tidewaternum_Num ⟨[e7]⟩ w20 fun e22 w23 =>
          ∃ n24 : Int, e22 = .returned (Value.int .i64 n24) ∧
          BIf (decide (n24 = n1)) (
            Calls Tryd.prog fn_wire_Number ⟨[Value.nilIface]⟩ w23 fun e25 w26 =>
            ∃ n27 : Int, e25 = .returned (Value.int .i64 n27) ∧
            K (Value.bool (decide (n27 = (0 : Int)))) w26) (
            K (Value.bool false) w23)) (
          K (Value.bool false) w20)) (
        K (Value.bool false) w9)))

theorem tidewaterlaw33_WireErrors_eq (n1 : Int) (w : World) (K : Value → World → Prop) : tidewaterlaw33_WireErrors n1 w K = denF Tryd.prog callB Tryd.f7 (.two .none (.two .none (.two .none (.cut [] [2, 8, 9, 10, 11, 12, 13, 14, 15] .none .none)))) [(Value.int .i64 n1)] w K := by kernel_rfl
theorem tidewaterlaw33_WireErrors_ok (n1 : Int) {w : World} {R : Ending → World → Prop} (h : tidewaterlaw33_WireErrors n1 w fun v w' => R (.returned v) w') : Calls Tryd.prog fn_tidewaterlaw33_WireErrors ⟨[(Value.int .i64 n1)]⟩ w R :=
  calls_of_den callB_ok mixed Tryd.func7 (tidewaterlaw33_WireErrors_eq n1 w _ ▸ h)

end Go.D
