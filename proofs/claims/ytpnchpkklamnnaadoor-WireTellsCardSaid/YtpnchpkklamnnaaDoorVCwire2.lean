/-
  WHAT IS PROVED: verification conditions of functions of this program, each with its soundness. No further conditions.
-/
import Derived.Test.YtpnchpkklamnnaaDoorBase
set_option linter.unusedSimpArgs false
set_option maxRecDepth 100000
set_option linter.unusedVariables false
namespace Go.D
open Go Go.Proofs
/-- tidewater/wire.within -/
def wire_within (n1 : Int) (most2 : Int) (w : World) (K : Value → World → Prop) : Prop :=
  BIf (decide ((0 : Int) ≤ n1)) (
    K (Value.bool (decide (n1 ≤ most2))) w) (
    K (Value.bool false) w)

theorem wire_within_eq (n1 : Int) (most2 : Int) (w : World) (K : Value → World → Prop) : wire_within n1 most2 w K = denF Tryd.prog callB Tryd.f82 .none [(Value.int .i64 n1), (Value.int .i64 most2)] w K := by kernel_rfl
theorem wire_within_ok (n1 : Int) (most2 : Int) {w : World} {R : Ending → World → Prop} (h : wire_within n1 most2 w fun v w' => R (.returned v) w') : Calls Tryd.prog fn_wire_within ⟨[(Value.int .i64 n1), (Value.int .i64 most2)]⟩ w R :=
  calls_of_den callB_ok mixed Tryd.func82 (wire_within_eq n1 most2 w _ ▸ h)

/-- (tidewater/wire.Request).right -/
def wire_Request_right (r1 : Int) (r2 : Int) (r3 : Int) (r4 : Int) (r5 : Slc) (w : World) (K : Value → World → Prop) : Prop :=
  newS w (.cells ⟨[(Value.int .i64 r1), (Value.int .i64 r2), (Value.int .i64 r3), (Value.int .i64 r4), (Slc.v r5)]⟩ 43) fun r6 w7 =>
  ∃ n8 : Int, World.cell? w7 (⟨r6, 0, none⟩ : Addr) = some (Value.int .i64 n8) ∧
  Calls Tryd.prog fn_wire_within ⟨[(Value.int .i64 n8), (Value.int .i64 (1073741824 : Int))]⟩ w7 fun e9 w10 =>
  ∃ b11 : Bool, e9 = .returned (Value.bool b11) ∧
  BIf b11 (
    ∃ n12 : Int, World.cell? w10 (⟨r6, 1, none⟩ : Addr) = some (Value.int .i64 n12) ∧
    BIf (decide ((1 : Int) ≤ n12)) (
      ∃ n13 : Int, World.cell? w10 (⟨r6, 1, none⟩ : Addr) = some (Value.int .i64 n13) ∧
      BIf (decide (n13 ≤ (5 : Int))) (
        ∃ n14 : Int, World.cell? w10 (⟨r6, 2, none⟩ : Addr) = some (Value.int .i64 n14) ∧
        Calls Tryd.prog fn_wire_within ⟨[(Value.int .i64 n14), (Value.int .i64 (1073741824 : Int))]⟩ w10 fun e15 w16 =>
        ∃ b17 : Bool, e15 = .returned (Value.bool b17) ∧
        BIf b17 (
          ∃ n18 : Int, World.cell? w16 (⟨r6, 3, none⟩ : Addr) = some (Value.int .i64 n18) ∧
          Calls Tryd.prog fn_wire_within ⟨[(Value.int .i64 n18), (Value.int .i64 (4096 : Int))]⟩ w16 fun e19 w20 =>
          ∃ b21 : Bool, e19 = .returned (Value.bool b21) ∧
          BIf b21 (
            ∃ s22 : Slc, World.cell? w20 (⟨r6, 4, none⟩ : Addr) = some (Slc.v s22) ∧
            BIf (decide (((s22.l : Nat) : Int) ≤ (2000 : Int))) (
              ∃ s23 : Slc, World.cell? w20 (⟨r6, 4, none⟩ : Addr) = some (Slc.v s23) ∧
              BIf (decide (((s23.l : Nat) : Int) = (0 : Int))) (
                K (Value.bool true) w20) (
                ∃ n24 : Int, World.cell? w20 (⟨r6, 1, none⟩ : Addr) = some (Value.int .i64 n24) ∧
                K (Value.bool (decide (n24 = (1 : Int)))) w20)) (
              K (Value.bool false) w20)) (
            K (Value.bool false) w20)) (
          K (Value.bool false) w16)) (
        K (Value.bool false) w10)) (
      K (Value.bool false) w10)) (
    K (Value.bool false) w10)

theorem wire_Request_right_eq (r1 : Int) (r2 : Int) (r3 : Int) (r4 : Int) (r5 : Slc) (w : World) (K : Value → World → Prop) : wire_Request_right r1 r2 r3 r4 r5 w K = denF Tryd.prog callB Tryd.f65 .none [(Value.agg ⟨[(Value.int .i64 r1), (Value.int .i64 r2), (Value.int .i64 r3), (Value.int .i64 r4), (Slc.v r5)]⟩)] w K := by kernel_rfl
theorem wire_Request_right_ok (r1 : Int) (r2 : Int) (r3 : Int) (r4 : Int) (r5 : Slc) {w : World} {R : Ending → World → Prop} (h : wire_Request_right r1 r2 r3 r4 r5 w fun v w' => R (.returned v) w') : Calls Tryd.prog fn_wire_Request_right ⟨[(Value.agg ⟨[(Value.int .i64 r1), (Value.int .i64 r2), (Value.int .i64 r3), (Value.int .i64 r4), (Slc.v r5)]⟩)]⟩ w R :=
  calls_of_den callB_ok mixed Tryd.func65 (wire_Request_right_eq r1 r2 r3 r4 r5 w _ ▸ h)

/-- tidewater/wire.framed -/
def wire_framed (data1 : Slc) (numbers2 : Slc) (w : World) (K : Value → World → Prop) : Prop :=
  newS w (.cells ⟨[(Slc.v (⟨none, 0, 0⟩ : Slc)), Value.nilIface]⟩ 67) fun r3 w4 =>
  ∃ (I5 : (Int) → World → Prop) (mu6 : (Int) → World → Nat), I5 ((0 : Int)) w4 ∧ (
  ∀ i7 : Int, ∀ w8 : World, I5 i7 w8 → ∀ u9 u10 u11 u12 u13 u14 u15 u16 : Value,
    BIf (decide (i7 < ((numbers2.l : Nat) : Int))) (
      needSome numbers2.p fun a17 =>
      0 ≤ i7 ∧ i7 < ((numbers2.l : Nat) : Int) ∧
      ∃ n18 : Int, World.cell? w8 (Addr.add a17 ((Int.toNat i7) * 1)) = some (Value.int .i64 n18) ∧
      Calls Tryd.prog fn_pack_Out_Num ⟨[(Value.pointer (some (⟨r3, 0, none⟩ : Addr))), (Value.int .i64 n18)]⟩ w8 fun e19 w20 =>
      e19 = .returned (Value.tuple #[]) ∧
      inR .i64 (i7 + (1 : Int)) ∧
      (I5 ((i7 + (1 : Int))) w20 ∧ mu6 ((i7 + (1 : Int))) w20 < mu6 i7 w8)) (
      ∃ t21 : List UInt8, bytesAt w8 data1 t21 ∧
      Calls Tryd.prog fn_pack_Out_Text ⟨[(Value.pointer (some (⟨r3, 0, none⟩ : Addr))), (strV t21)]⟩ w8 fun e22 w23 =>
      e22 = .returned (Value.tuple #[]) ∧
      Calls Tryd.prog fn_pack_Out_Done ⟨[(Value.pointer (some (⟨r3, 0, none⟩ : Addr)))]⟩ w23 fun e24 w25 =>
      ∃ s26 : Slc, ∃ e27 : Value, e24 = .returned (Value.tuple ⟨[(Slc.v s26), e27]⟩) ∧
      isI e27 ∧
      BIf (!isNilI e27) (
        K (Value.tuple ⟨[(Slc.v (⟨none, 0, 0⟩ : Slc)), e27]⟩) w25) (
        Calls Tryd.prog fn_sums_Frame ⟨[(Slc.v s26)]⟩ w25 fun e28 w29 =>
        ∃ s30 : Slc, ∃ e31 : Value, e28 = .returned (Value.tuple ⟨[(Slc.v s30), e31]⟩) ∧
        K (Value.tuple ⟨[(Slc.v s30), e31]⟩) w29)))

theorem wire_framed_eq (data1 : Slc) (numbers2 : Slc) (w : World) (K : Value → World → Prop) : wire_framed data1 numbers2 w K = denF Tryd.prog callB Tryd.f66 (.two .none (.two .none (.two (.two .none (.one (.loop [(15, (Sh.int .i64))] [8, 16, 17, 18, 19, 20, 21, 22] .none))) .none))) [(Slc.v data1), (Slc.v numbers2)] w K := by kernel_rfl
theorem wire_framed_ok (data1 : Slc) (numbers2 : Slc) {w : World} {R : Ending → World → Prop} (h : wire_framed data1 numbers2 w fun v w' => R (.returned v) w') : Calls Tryd.prog fn_wire_framed ⟨[(Slc.v data1), (Slc.v numbers2)]⟩ w R :=
  calls_of_den callB_ok mixed Tryd.func66 (wire_framed_eq data1 numbers2 w _ ▸ h)

/-- tidewater/tidewaterref33.upto -/
def tidewaterref33_upto (n1 : Int) (most2 : Int) (w : World) (K : Value → World → Prop) : Prop :=
  BIf (decide ((0 : Int) ≤ n1)) (
    K (Value.bool (decide (n1 ≤ most2))) w) (
    K (Value.bool false) w)

theorem tidewaterref33_upto_eq (n1 : Int) (most2 : Int) (w : World) (K : Value → World → Prop) : tidewaterref33_upto n1 most2 w K = denF Tryd.prog callB Tryd.f67 .none [(Value.int .i64 n1), (Value.int .i64 most2)] w K := by kernel_rfl
theorem tidewaterref33_upto_ok (n1 : Int) (most2 : Int) {w : World} {R : Ending → World → Prop} (h : tidewaterref33_upto n1 most2 w fun v w' => R (.returned v) w') : Calls Tryd.prog fn_tidewaterref33_upto ⟨[(Value.int .i64 n1), (Value.int .i64 most2)]⟩ w R :=
  calls_of_den callB_ok mixed Tryd.func67 (tidewaterref33_upto_eq n1 most2 w _ ▸ h)

/-- tidewater/tidewaterref33.framed -/
def tidewaterref33_framed (data1 : Slc) (l2 : Slc) (w : World) (K : Value → World → Prop) : Prop :=
  newS w (.cells ⟨[]⟩ 5) fun r3 w4 =>
  ∃ (I5 : (Slc) → (Int) → World → Prop) (mu6 : (Slc) → (Int) → World → Nat), I5 ((⟨(some (⟨r3, 0, none⟩ : Addr)), 0, 0⟩ : Slc)) ((0 : Int)) w4 ∧ (
  ∀ out7 : Slc, ∀ i8 : Int, ∀ w9 : World, I5 out7 i8 w9 → ∀ u10 u11 u12 u13 u14 u15 u16 u17 u18 : Value,
    BIf (decide (i8 < ((l2.l : Nat) : Int))) (
      needSome l2.p fun a19 =>
      0 ≤ i8 ∧ i8 < ((l2.l : Nat) : Int) ∧
      ∃ n20 : Int, World.cell? w9 (Addr.add a19 ((Int.toNat i8) * 1)) = some (Value.int .i64 n20) ∧
      Calls Tryd.prog fn_tidewaterref04_Num ⟨[(Value.int .i64 n20)]⟩ w9 fun e21 w22 =>
      ∃ s23 : Slc, e21 = .returned (Slc.v s23) ∧
      appendS 1 5 [(Value.int .u8 (0 : Int))] w22 out7 (.slc s23) fun s24 w25 =>
      inR .i64 (i8 + (1 : Int)) ∧
      (I5 (s24) ((i8 + (1 : Int))) w25 ∧ mu6 (s24) ((i8 + (1 : Int))) w25 < mu6 out7 i8 w9)) (
      ∃ t26 : List UInt8, bytesAt w9 data1 t26 ∧
      Calls Tryd.prog fn_tidewaterref04_Text ⟨[(strV t26)]⟩ w9 fun e27 w28 =>
      ∃ s29 : Slc, e27 = .returned (Slc.v s29) ∧
      appendS 1 5 [(Value.int .u8 (0 : Int))] w28 out7 (.slc s29) fun s30 w31 =>
      Calls Tryd.prog fn_tidewaterref01_Frame ⟨[(Slc.v s30)]⟩ w31 fun e32 w33 =>
      ∃ s34 : Slc, e32 = .returned (Slc.v s34) ∧
      K (Slc.v s34) w33))

theorem tidewaterref33_framed_eq (data1 : Slc) (l2 : Slc) (w : World) (K : Value → World → Prop) : tidewaterref33_framed data1 l2 w K = denF Tryd.prog callB Tryd.f68 (.two .none (.two .none (.two (.two .none (.one (.loop [(5, Sh.slc), (11, (Sh.int .i64))] [7, 12, 13, 14, 15, 16, 17, 18, 19] .none))) .none))) [(Slc.v data1), (Slc.v l2)] w K := by kernel_rfl
theorem tidewaterref33_framed_ok (data1 : Slc) (l2 : Slc) {w : World} {R : Ending → World → Prop} (h : tidewaterref33_framed data1 l2 w fun v w' => R (.returned v) w') : Calls Tryd.prog fn_tidewaterref33_framed ⟨[(Slc.v data1), (Slc.v l2)]⟩ w R :=
  calls_of_den callB_ok mixed Tryd.func68 (tidewaterref33_framed_eq data1 l2 w _ ▸ h)

/-- (tidewater/wire.Reply).right -/
def wire_Reply_right (r1 : Int) (r2 : Int) (r3 : Int) (r4 : Slc) (w : World) (K : Value → World → Prop) : Prop :=
  newS w (.cells ⟨[(Value.int .i64 r1), (Value.int .i64 r2), (Value.int .i64 r3), (Slc.v r4)]⟩ 48) fun r5 w6 =>
  ∃ n7 : Int, World.cell? (World.drew w6) (⟨r5, 0, none⟩ : Addr) = some (Value.int .i64 n7) ∧
  Calls Tryd.prog fn_wire_within ⟨[(Value.int .i64 n7), (Value.int .i64 (1073741824 : Int))]⟩ (World.drew w6) fun e8 w9 =>
  ∃ b10 : Bool, e8 = .returned (Value.bool b10) ∧
  BIf b10 (
    ∃ n11 : Int, World.cell? w9 (⟨r5, 1, none⟩ : Addr) = some (Value.int .i64 n11) ∧
    Calls Tryd.prog fn_wire_table ⟨[]⟩ w9 fun e12 w13 =>
    ∃ s14 : Slc, e12 = .returned (Slc.v s14) ∧
    (∃ n15 : Int, World.cell? w13 (⟨r5, 1, none⟩ : Addr) = some (Value.int .i64 n15) ∧
    (Value.int .i64 n15) = (Value.int .i64 n11)) ∧
    Calls Tryd.prog fn_wire_within ⟨[(Value.int .i64 n11), (Value.int .i64 ((s14.l : Nat) : Int))]⟩ w13 fun e16 w17 =>
    ∃ b18 : Bool, e16 = .returned (Value.bool b18) ∧
    BIf b18 (
      ∃ n19 : Int, World.cell? w17 (⟨r5, 2, none⟩ : Addr) = some (Value.int .i64 n19) ∧
      Calls Tryd.prog fn_wire_within ⟨[(Value.int .i64 n19), (Value.int .i64 (4096 : Int))]⟩ w17 fun e20 w21 =>
      ∃ b22 : Bool, e20 = .returned (Value.bool b22) ∧
      BIf b22 (
        ∃ s23 : Slc, World.cell? w21 (⟨r5, 3, none⟩ : Addr) = some (Slc.v s23) ∧
        K (Value.bool (decide (((s23.l : Nat) : Int) ≤ (2000 : Int)))) w21) (
        K (Value.bool false) w21)) (
      K (Value.bool false) w17)) (
    K (Value.bool false) w9)

theorem wire_Reply_right_eq (r1 : Int) (r2 : Int) (r3 : Int) (r4 : Slc) (w : World) (K : Value → World → Prop) : wire_Reply_right r1 r2 r3 r4 w K = denF Tryd.prog callB Tryd.f69 .none [(Value.agg ⟨[(Value.int .i64 r1), (Value.int .i64 r2), (Value.int .i64 r3), (Slc.v r4)]⟩)] w K := by kernel_rfl
theorem wire_Reply_right_ok (r1 : Int) (r2 : Int) (r3 : Int) (r4 : Slc) {w : World} {R : Ending → World → Prop} (h : wire_Reply_right r1 r2 r3 r4 w fun v w' => R (.returned v) w') : Calls Tryd.prog fn_wire_Reply_right ⟨[(Value.agg ⟨[(Value.int .i64 r1), (Value.int .i64 r2), (Value.int .i64 r3), (Slc.v r4)]⟩)]⟩ w R :=
  calls_of_den callB_ok mixed Tryd.func69 (wire_Reply_right_eq r1 r2 r3 r4 w _ ▸ h)

/-- tidewater/wire.Ask -/
def wire_Ask (r1 : Int) (r2 : Int) (r3 : Int) (r4 : Int) (r5 : Slc) (w : World) (K : Value → World → Prop) : Prop :=
  newS w (.cells ⟨[(Value.int .i64 r1), (Value.int .i64 r2), (Value.int .i64 r3), (Value.int .i64 r4), (Slc.v r5)]⟩ 43) fun r6 w7 =>
  ∃ n8 : Int, ∃ n9 : Int, ∃ n10 : Int, ∃ n11 : Int, ∃ s12 : Slc, rowAt w7 (⟨r6, 0, none⟩ : Addr) 0 [(Value.int .i64 n8), (Value.int .i64 n9), (Value.int .i64 n10), (Value.int .i64 n11), (Slc.v s12)] ∧
  Calls Tryd.prog fn_wire_Request_right ⟨[(Value.agg ⟨[(Value.int .i64 n8), (Value.int .i64 n9), (Value.int .i64 n10), (Value.int .i64 n11), (Slc.v s12)]⟩)]⟩ w7 fun e13 w14 =>
  ∃ b15 : Bool, e13 = .returned (Value.bool b15) ∧
  BIf (!b15) (
    ∃ v16 : Value, World.cell? (World.drew w14) (⟨gl_ErrForm, 0, none⟩ : Addr) = some v16 ∧
    K (Value.tuple ⟨[(Slc.v (⟨none, 0, 0⟩ : Slc)), v16]⟩) (World.drew w14)) (
    ∃ s17 : Slc, World.cell? w14 (⟨r6, 4, none⟩ : Addr) = some (Slc.v s17) ∧
    ∃ n18 : Int, World.cell? w14 (⟨r6, 0, none⟩ : Addr) = some (Value.int .i64 n18) ∧
    ∃ n19 : Int, World.cell? w14 (⟨r6, 1, none⟩ : Addr) = some (Value.int .i64 n19) ∧
    ∃ n20 : Int, World.cell? w14 (⟨r6, 2, none⟩ : Addr) = some (Value.int .i64 n20) ∧
    ∃ n21 : Int, World.cell? w14 (⟨r6, 3, none⟩ : Addr) = some (Value.int .i64 n21) ∧
    newS w14 (.cells ⟨[(Value.int .i64 (1 : Int)), (Value.int .i64 n18), (Value.int .i64 n19), (Value.int .i64 n20), (Value.int .i64 n21)]⟩ 3) fun r22 w23 =>
    Calls Tryd.prog fn_wire_framed ⟨[(Slc.v s17), (Slc.v (⟨(some (⟨r22, 0, none⟩ : Addr)), 5, 5⟩ : Slc))]⟩ w23 fun e24 w25 =>
    ∃ s26 : Slc, ∃ e27 : Value, e24 = .returned (Value.tuple ⟨[(Slc.v s26), e27]⟩) ∧
    K (Value.tuple ⟨[(Slc.v s26), e27]⟩) w25)

theorem wire_Ask_eq (r1 : Int) (r2 : Int) (r3 : Int) (r4 : Int) (r5 : Slc) (w : World) (K : Value → World → Prop) : wire_Ask r1 r2 r3 r4 r5 w K = denF Tryd.prog callB Tryd.f27 .none [(Value.agg ⟨[(Value.int .i64 r1), (Value.int .i64 r2), (Value.int .i64 r3), (Value.int .i64 r4), (Slc.v r5)]⟩)] w K := by kernel_rfl
theorem wire_Ask_ok (r1 : Int) (r2 : Int) (r3 : Int) (r4 : Int) (r5 : Slc) {w : World} {R : Ending → World → Prop} (h : wire_Ask r1 r2 r3 r4 r5 w fun v w' => R (.returned v) w') : Calls Tryd.prog fn_wire_Ask ⟨[(Value.agg ⟨[(Value.int .i64 r1), (Value.int .i64 r2), (Value.int .i64 r3), (Value.int .i64 r4), (Slc.v r5)]⟩)]⟩ w R :=
  calls_of_den callB_ok mixed Tryd.func27 (wire_Ask_eq r1 r2 r3 r4 r5 w _ ▸ h)

/-- tidewater/tidewaterref33.RightAsk -/
def tidewaterref33_RightAsk (r1 : Int) (r2 : Int) (r3 : Int) (r4 : Int) (r5 : Slc) (w : World) (K : Value → World → Prop) : Prop :=
  newS w (.cells ⟨[(Value.int .i64 r1), (Value.int .i64 r2), (Value.int .i64 r3), (Value.int .i64 r4), (Slc.v r5)]⟩ 45) fun r6 w7 =>
  ∃ n8 : Int, World.cell? w7 (⟨r6, 0, none⟩ : Addr) = some (Value.int .i64 n8) ∧
  Calls Tryd.prog fn_tidewaterref33_upto ⟨[(Value.int .i64 n8), (Value.int .i64 (1073741824 : Int))]⟩ w7 fun e9 w10 =>
  ∃ b11 : Bool, e9 = .returned (Value.bool b11) ∧
  BIf b11 (
    ∃ n12 : Int, World.cell? w10 (⟨r6, 1, none⟩ : Addr) = some (Value.int .i64 n12) ∧
    BIf (decide ((1 : Int) ≤ n12)) (
      ∃ n13 : Int, World.cell? w10 (⟨r6, 1, none⟩ : Addr) = some (Value.int .i64 n13) ∧
      BIf (decide (n13 ≤ (5 : Int))) (
        ∃ n14 : Int, World.cell? w10 (⟨r6, 2, none⟩ : Addr) = some (Value.int .i64 n14) ∧
        Calls Tryd.prog fn_tidewaterref33_upto ⟨[(Value.int .i64 n14), (Value.int .i64 (1073741824 : Int))]⟩ w10 fun e15 w16 =>
        ∃ b17 : Bool, e15 = .returned (Value.bool b17) ∧
        BIf b17 (
          ∃ n18 : Int, World.cell? w16 (⟨r6, 3, none⟩ : Addr) = some (Value.int .i64 n18) ∧
          Calls Tryd.prog fn_tidewaterref33_upto ⟨[(Value.int .i64 n18), (Value.int .i64 (4096 : Int))]⟩ w16 fun e19 w20 =>
          ∃ b21 : Bool, e19 = .returned (Value.bool b21) ∧
          BIf b21 (
            ∃ s22 : Slc, World.cell? w20 (⟨r6, 4, none⟩ : Addr) = some (Slc.v s22) ∧
            BIf (decide (((s22.l : Nat) : Int) ≤ (2000 : Int))) (
              ∃ n23 : Int, World.cell? w20 (⟨r6, 1, none⟩ : Addr) = some (Value.int .i64 n23) ∧
              BIf (decide (n23 = (1 : Int))) (
                K (Value.bool true) w20) (
                ∃ s24 : Slc, World.cell? w20 (⟨r6, 4, none⟩ : Addr) = some (Slc.v s24) ∧
                K (Value.bool (decide (((s24.l : Nat) : Int) = (0 : Int)))) w20)) (
              K (Value.bool false) w20)) (
            K (Value.bool false) w20)) (
          K (Value.bool false) w16)) (
        K (Value.bool false) w10)) (
      K (Value.bool false) w10)) (
    K (Value.bool false) w10)

theorem tidewaterref33_RightAsk_eq (r1 : Int) (r2 : Int) (r3 : Int) (r4 : Int) (r5 : Slc) (w : World) (K : Value → World → Prop) : tidewaterref33_RightAsk r1 r2 r3 r4 r5 w K = denF Tryd.prog callB Tryd.f28 .none [(Value.agg ⟨[(Value.int .i64 r1), (Value.int .i64 r2), (Value.int .i64 r3), (Value.int .i64 r4), (Slc.v r5)]⟩)] w K := by kernel_rfl
theorem tidewaterref33_RightAsk_ok (r1 : Int) (r2 : Int) (r3 : Int) (r4 : Int) (r5 : Slc) {w : World} {R : Ending → World → Prop} (h : tidewaterref33_RightAsk r1 r2 r3 r4 r5 w fun v w' => R (.returned v) w') : Calls Tryd.prog fn_tidewaterref33_RightAsk ⟨[(Value.agg ⟨[(Value.int .i64 r1), (Value.int .i64 r2), (Value.int .i64 r3), (Value.int .i64 r4), (Slc.v r5)]⟩)]⟩ w R :=
  calls_of_den callB_ok mixed Tryd.func28 (tidewaterref33_RightAsk_eq r1 r2 r3 r4 r5 w _ ▸ h)

/-- tidewater/tidewaterref33.Ask -/
def tidewaterref33_Ask (r1 : Int) (r2 : Int) (r3 : Int) (r4 : Int) (r5 : Slc) (w : World) (K : Value → World → Prop) : Prop :=
  newS w (.cells ⟨[(Value.int .i64 r1), (Value.int .i64 r2), (Value.int .i64 r3), (Value.int .i64 r4), (Slc.v r5)]⟩ 45) fun r6 w7 =>
  ∃ s8 : Slc, World.cell? w7 (⟨r6, 4, none⟩ : Addr) = some (Slc.v s8) ∧
  ∃ n9 : Int, World.cell? w7 (⟨r6, 0, none⟩ : Addr) = some (Value.int .i64 n9) ∧
  ∃ n10 : Int, World.cell? w7 (⟨r6, 1, none⟩ : Addr) = some (Value.int .i64 n10) ∧
  ∃ n11 : Int, World.cell? w7 (⟨r6, 2, none⟩ : Addr) = some (Value.int .i64 n11) ∧
  ∃ n12 : Int, World.cell? w7 (⟨r6, 3, none⟩ : Addr) = some (Value.int .i64 n12) ∧
  newS w7 (.cells ⟨[(Value.int .i64 (1 : Int)), (Value.int .i64 n9), (Value.int .i64 n10), (Value.int .i64 n11), (Value.int .i64 n12)]⟩ 3) fun r13 w14 =>
  Calls Tryd.prog fn_tidewaterref33_framed ⟨[(Slc.v s8), (Slc.v (⟨(some (⟨r13, 0, none⟩ : Addr)), 5, 5⟩ : Slc))]⟩ w14 fun e15 w16 =>
  ∃ s17 : Slc, e15 = .returned (Slc.v s17) ∧
  K (Slc.v s17) w16

theorem tidewaterref33_Ask_eq (r1 : Int) (r2 : Int) (r3 : Int) (r4 : Int) (r5 : Slc) (w : World) (K : Value → World → Prop) : tidewaterref33_Ask r1 r2 r3 r4 r5 w K = denF Tryd.prog callB Tryd.f30 .none [(Value.agg ⟨[(Value.int .i64 r1), (Value.int .i64 r2), (Value.int .i64 r3), (Value.int .i64 r4), (Slc.v r5)]⟩)] w K := by kernel_rfl
theorem tidewaterref33_Ask_ok (r1 : Int) (r2 : Int) (r3 : Int) (r4 : Int) (r5 : Slc) {w : World} {R : Ending → World → Prop} (h : tidewaterref33_Ask r1 r2 r3 r4 r5 w fun v w' => R (.returned v) w') : Calls Tryd.prog fn_tidewaterref33_Ask ⟨[(Value.agg ⟨[(Value.int .i64 r1), (Value.int .i64 r2), (Value.int .i64 r3), (Value.int .i64 r4), (Slc.v r5)]⟩)]⟩ w R :=
  calls_of_den callB_ok mixed Tryd.func30 (tidewaterref33_Ask_eq r1 r2 r3 r4 r5 w _ ▸ h)

/-- tidewater/tidewaterlaw33.sameAsk -/
def tidewaterlaw33_sameAsk (a1 : Int) (a2 : Int) (a3 : Int) (a4 : Int) (a5 : Slc) (b6 : Int) (b7 : Int) (b8 : Int) (b9 : Int) (b10 : Slc) (w : World) (K : Value → World → Prop) : Prop :=
  newS w (.cells ⟨[(Value.int .i64 a1), (Value.int .i64 a2), (Value.int .i64 a3), (Value.int .i64 a4), (Slc.v a5)]⟩ 43) fun r11 w12 =>
  newS w12 (.cells ⟨[(Value.int .i64 b6), (Value.int .i64 b7), (Value.int .i64 b8), (Value.int .i64 b9), (Slc.v b10)]⟩ 45) fun r13 w14 =>
  ∃ n15 : Int, World.cell? w14 (⟨r11, 0, none⟩ : Addr) = some (Value.int .i64 n15) ∧
  ∃ n16 : Int, World.cell? w14 (⟨r13, 0, none⟩ : Addr) = some (Value.int .i64 n16) ∧
  BIf (decide (n15 = n16)) (
    ∃ n17 : Int, World.cell? w14 (⟨r11, 1, none⟩ : Addr) = some (Value.int .i64 n17) ∧
    ∃ n18 : Int, World.cell? w14 (⟨r13, 1, none⟩ : Addr) = some (Value.int .i64 n18) ∧
    BIf (decide (n17 = n18)) (
      ∃ n19 : Int, World.cell? w14 (⟨r11, 2, none⟩ : Addr) = some (Value.int .i64 n19) ∧
      ∃ n20 : Int, World.cell? w14 (⟨r13, 2, none⟩ : Addr) = some (Value.int .i64 n20) ∧
      BIf (decide (n19 = n20)) (
        ∃ n21 : Int, World.cell? w14 (⟨r11, 3, none⟩ : Addr) = some (Value.int .i64 n21) ∧
        ∃ n22 : Int, World.cell? w14 (⟨r13, 3, none⟩ : Addr) = some (Value.int .i64 n22) ∧
        BIf (decide (n21 = n22)) (
          ∃ s23 : Slc, World.cell? w14 (⟨r11, 4, none⟩ : Addr) = some (Slc.v s23) ∧
          ∃ t24 : List UInt8, bytesAt w14 s23 t24 ∧
          ∃ s25 : Slc, World.cell? w14 (⟨r13, 4, none⟩ : Addr) = some (Slc.v s25) ∧
          ∃ t26 : List UInt8, bytesAt w14 s25 t26 ∧
          K (Value.bool (decide (t24 = t26))) w14) (
          K (Value.bool false) w14)) (
        K (Value.bool false) w14)) (
      K (Value.bool false) w14)) (
    K (Value.bool false) w14)

theorem tidewaterlaw33_sameAsk_eq (a1 : Int) (a2 : Int) (a3 : Int) (a4 : Int) (a5 : Slc) (b6 : Int) (b7 : Int) (b8 : Int) (b9 : Int) (b10 : Slc) (w : World) (K : Value → World → Prop) : tidewaterlaw33_sameAsk a1 a2 a3 a4 a5 b6 b7 b8 b9 b10 w K = denF Tryd.prog callB Tryd.f31 .none [(Value.agg ⟨[(Value.int .i64 a1), (Value.int .i64 a2), (Value.int .i64 a3), (Value.int .i64 a4), (Slc.v a5)]⟩), (Value.agg ⟨[(Value.int .i64 b6), (Value.int .i64 b7), (Value.int .i64 b8), (Value.int .i64 b9), (Slc.v b10)]⟩)] w K := by kernel_rfl
theorem tidewaterlaw33_sameAsk_ok (a1 : Int) (a2 : Int) (a3 : Int) (a4 : Int) (a5 : Slc) (b6 : Int) (b7 : Int) (b8 : Int) (b9 : Int) (b10 : Slc) {w : World} {R : Ending → World → Prop} (h : tidewaterlaw33_sameAsk a1 a2 a3 a4 a5 b6 b7 b8 b9 b10 w fun v w' => R (.returned v) w') : Calls Tryd.prog fn_tidewaterlaw33_sameAsk ⟨[(Value.agg ⟨[(Value.int .i64 a1), (Value.int .i64 a2), (Value.int .i64 a3), (Value.int .i64 a4), (Slc.v a5)]⟩), (Value.agg ⟨[(Value.int .i64 b6), (Value.int .i64 b7), (Value.int .i64 b8), (Value.int .i64 b9), (Slc.v b10)]⟩)]⟩ w R :=
  calls_of_den callB_ok mixed Tryd.func31 (tidewaterlaw33_sameAsk_eq a1 a2 a3 a4 a5 b6 b7 b8 b9 b10 w _ ▸ h)

/-- tidewater/tidewaterlaw33.sameTell -/
def tidewaterlaw33_sameTell (a1 : Int) (a2 : Int) (a3 : Int) (a4 : Slc) (b5 : Int) (b6 : Int) (b7 : Int) (b8 : Slc) (w : World) (K : Value → World → Prop) : Prop :=
  newS w (.cells ⟨[(Value.int .i64 a1), (Value.int .i64 a2), (Value.int .i64 a3), (Slc.v a4)]⟩ 48) fun r9 w10 =>
  newS w10 (.cells ⟨[(Value.int .i64 b5), (Value.int .i64 b6), (Value.int .i64 b7), (Slc.v b8)]⟩ 54) fun r11 w12 =>
  ∃ n13 : Int, World.cell? w12 (⟨r9, 0, none⟩ : Addr) = some (Value.int .i64 n13) ∧
  ∃ n14 : Int, World.cell? w12 (⟨r11, 0, none⟩ : Addr) = some (Value.int .i64 n14) ∧
  BIf (decide (n13 = n14)) (
    ∃ n15 : Int, World.cell? w12 (⟨r9, 1, none⟩ : Addr) = some (Value.int .i64 n15) ∧
    ∃ n16 : Int, World.cell? w12 (⟨r11, 1, none⟩ : Addr) = some (Value.int .i64 n16) ∧
    BIf (decide (n15 = n16)) (
      ∃ n17 : Int, World.cell? w12 (⟨r9, 2, none⟩ : Addr) = some (Value.int .i64 n17) ∧
      ∃ n18 : Int, World.cell? w12 (⟨r11, 2, none⟩ : Addr) = some (Value.int .i64 n18) ∧
      BIf (decide (n17 = n18)) (
        ∃ s19 : Slc, World.cell? w12 (⟨r9, 3, none⟩ : Addr) = some (Slc.v s19) ∧
        ∃ t20 : List UInt8, bytesAt w12 s19 t20 ∧
        ∃ s21 : Slc, World.cell? w12 (⟨r11, 3, none⟩ : Addr) = some (Slc.v s21) ∧
        ∃ t22 : List UInt8, bytesAt w12 s21 t22 ∧
        K (Value.bool (decide (t20 = t22))) w12) (
        K (Value.bool false) w12)) (
      K (Value.bool false) w12)) (
    K (Value.bool false) w12)

theorem tidewaterlaw33_sameTell_eq (a1 : Int) (a2 : Int) (a3 : Int) (a4 : Slc) (b5 : Int) (b6 : Int) (b7 : Int) (b8 : Slc) (w : World) (K : Value → World → Prop) : tidewaterlaw33_sameTell a1 a2 a3 a4 b5 b6 b7 b8 w K = denF Tryd.prog callB Tryd.f32 .none [(Value.agg ⟨[(Value.int .i64 a1), (Value.int .i64 a2), (Value.int .i64 a3), (Slc.v a4)]⟩), (Value.agg ⟨[(Value.int .i64 b5), (Value.int .i64 b6), (Value.int .i64 b7), (Slc.v b8)]⟩)] w K := by kernel_rfl
theorem tidewaterlaw33_sameTell_ok (a1 : Int) (a2 : Int) (a3 : Int) (a4 : Slc) (b5 : Int) (b6 : Int) (b7 : Int) (b8 : Slc) {w : World} {R : Ending → World → Prop} (h : tidewaterlaw33_sameTell a1 a2 a3 a4 b5 b6 b7 b8 w fun v w' => R (.returned v) w') : Calls Tryd.prog fn_tidewaterlaw33_sameTell ⟨[(Value.agg ⟨[(Value.int .i64 a1), (Value.int .i64 a2), (Value.int .i64 a3), (Slc.v a4)]⟩), (Value.agg ⟨[(Value.int .i64 b5), (Value.int .i64 b6), (Value.int .i64 b7), (Slc.v b8)]⟩)]⟩ w R :=
  calls_of_den callB_ok mixed Tryd.func32 (tidewaterlaw33_sameTell_eq a1 a2 a3 a4 b5 b6 b7 b8 w _ ▸ h)

/-- tidewater/wire.Tell -/
def wire_Tell (r1 : Int) (r2 : Int) (r3 : Int) (r4 : Slc) (w : World) (K : Value → World → Prop) : Prop :=
  newS w (.cells ⟨[(Value.int .i64 r1), (Value.int .i64 r2), (Value.int .i64 r3), (Slc.v r4)]⟩ 48) fun r5 w6 =>
  ∃ n7 : Int, ∃ n8 : Int, ∃ n9 : Int, ∃ s10 : Slc, rowAt w6 (⟨r5, 0, none⟩ : Addr) 0 [(Value.int .i64 n7), (Value.int .i64 n8), (Value.int .i64 n9), (Slc.v s10)] ∧
  Calls Tryd.prog fn_wire_Reply_right ⟨[(Value.agg ⟨[(Value.int .i64 n7), (Value.int .i64 n8), (Value.int .i64 n9), (Slc.v s10)]⟩)]⟩ w6 fun e11 w12 =>
  ∃ b13 : Bool, e11 = .returned (Value.bool b13) ∧
  BIf (!b13) (
    ∃ v14 : Value, World.cell? (World.drew w12) (⟨gl_ErrForm, 0, none⟩ : Addr) = some v14 ∧
    K (Value.tuple ⟨[(Slc.v (⟨none, 0, 0⟩ : Slc)), v14]⟩) (World.drew w12)) (
    ∃ s15 : Slc, World.cell? w12 (⟨r5, 3, none⟩ : Addr) = some (Slc.v s15) ∧
    ∃ n16 : Int, World.cell? w12 (⟨r5, 0, none⟩ : Addr) = some (Value.int .i64 n16) ∧
    ∃ n17 : Int, World.cell? w12 (⟨r5, 1, none⟩ : Addr) = some (Value.int .i64 n17) ∧
    ∃ n18 : Int, World.cell? w12 (⟨r5, 2, none⟩ : Addr) = some (Value.int .i64 n18) ∧
    newS w12 (.cells ⟨[(Value.int .i64 (2 : Int)), (Value.int .i64 n16), (Value.int .i64 n17), (Value.int .i64 n18)]⟩ 3) fun r19 w20 =>
    Calls Tryd.prog fn_wire_framed ⟨[(Slc.v s15), (Slc.v (⟨(some (⟨r19, 0, none⟩ : Addr)), 4, 4⟩ : Slc))]⟩ w20 fun e21 w22 =>
    ∃ s23 : Slc, ∃ e24 : Value, e21 = .returned (Value.tuple ⟨[(Slc.v s23), e24]⟩) ∧
    K (Value.tuple ⟨[(Slc.v s23), e24]⟩) w22)

theorem wire_Tell_eq (r1 : Int) (r2 : Int) (r3 : Int) (r4 : Slc) (w : World) (K : Value → World → Prop) : wire_Tell r1 r2 r3 r4 w K = denF Tryd.prog callB Tryd.f33 .none [(Value.agg ⟨[(Value.int .i64 r1), (Value.int .i64 r2), (Value.int .i64 r3), (Slc.v r4)]⟩)] w K := by kernel_rfl
theorem wire_Tell_ok (r1 : Int) (r2 : Int) (r3 : Int) (r4 : Slc) {w : World} {R : Ending → World → Prop} (h : wire_Tell r1 r2 r3 r4 w fun v w' => R (.returned v) w') : Calls Tryd.prog fn_wire_Tell ⟨[(Value.agg ⟨[(Value.int .i64 r1), (Value.int .i64 r2), (Value.int .i64 r3), (Slc.v r4)]⟩)]⟩ w R :=
  calls_of_den callB_ok mixed Tryd.func33 (wire_Tell_eq r1 r2 r3 r4 w _ ▸ h)

/-- tidewater/tidewaterref33.RightTell -/
def tidewaterref33_RightTell (r1 : Int) (r2 : Int) (r3 : Int) (r4 : Slc) (w : World) (K : Value → World → Prop) : Prop :=
  newS w (.cells ⟨[(Value.int .i64 r1), (Value.int .i64 r2), (Value.int .i64 r3), (Slc.v r4)]⟩ 54) fun r5 w6 =>
  ∃ n7 : Int, World.cell? w6 (⟨r5, 0, none⟩ : Addr) = some (Value.int .i64 n7) ∧
  Calls Tryd.prog fn_tidewaterref33_upto ⟨[(Value.int .i64 n7), (Value.int .i64 (1073741824 : Int))]⟩ w6 fun e8 w9 =>
  ∃ b10 : Bool, e8 = .returned (Value.bool b10) ∧
  BIf b10 (
    ∃ n11 : Int, World.cell? w9 (⟨r5, 1, none⟩ : Addr) = some (Value.int .i64 n11) ∧
    Calls Tryd.prog fn_tidewaterref33_upto ⟨[(Value.int .i64 n11), (Value.int .i64 (19 : Int))]⟩ w9 fun e12 w13 =>
    ∃ b14 : Bool, e12 = .returned (Value.bool b14) ∧
    BIf b14 (
      ∃ n15 : Int, World.cell? w13 (⟨r5, 2, none⟩ : Addr) = some (Value.int .i64 n15) ∧
      Calls Tryd.prog fn_tidewaterref33_upto ⟨[(Value.int .i64 n15), (Value.int .i64 (4096 : Int))]⟩ w13 fun e16 w17 =>
      ∃ b18 : Bool, e16 = .returned (Value.bool b18) ∧
      BIf b18 (
        ∃ s19 : Slc, World.cell? w17 (⟨r5, 3, none⟩ : Addr) = some (Slc.v s19) ∧
        K (Value.bool (decide (((s19.l : Nat) : Int) ≤ (2000 : Int)))) w17) (
        K (Value.bool false) w17)) (
      K (Value.bool false) w13)) (
    K (Value.bool false) w9)

theorem tidewaterref33_RightTell_eq (r1 : Int) (r2 : Int) (r3 : Int) (r4 : Slc) (w : World) (K : Value → World → Prop) : tidewaterref33_RightTell r1 r2 r3 r4 w K = denF Tryd.prog callB Tryd.f34 .none [(Value.agg ⟨[(Value.int .i64 r1), (Value.int .i64 r2), (Value.int .i64 r3), (Slc.v r4)]⟩)] w K := by kernel_rfl
theorem tidewaterref33_RightTell_ok (r1 : Int) (r2 : Int) (r3 : Int) (r4 : Slc) {w : World} {R : Ending → World → Prop} (h : tidewaterref33_RightTell r1 r2 r3 r4 w fun v w' => R (.returned v) w') : Calls Tryd.prog fn_tidewaterref33_RightTell ⟨[(Value.agg ⟨[(Value.int .i64 r1), (Value.int .i64 r2), (Value.int .i64 r3), (Slc.v r4)]⟩)]⟩ w R :=
  calls_of_den callB_ok mixed Tryd.func34 (tidewaterref33_RightTell_eq r1 r2 r3 r4 w _ ▸ h)

/-- tidewater/tidewaterref33.Tell -/
def tidewaterref33_Tell (r1 : Int) (r2 : Int) (r3 : Int) (r4 : Slc) (w : World) (K : Value → World → Prop) : Prop :=
  newS w (.cells ⟨[(Value.int .i64 r1), (Value.int .i64 r2), (Value.int .i64 r3), (Slc.v r4)]⟩ 54) fun r5 w6 =>
  ∃ s7 : Slc, World.cell? w6 (⟨r5, 3, none⟩ : Addr) = some (Slc.v s7) ∧
  ∃ n8 : Int, World.cell? w6 (⟨r5, 0, none⟩ : Addr) = some (Value.int .i64 n8) ∧
  ∃ n9 : Int, World.cell? w6 (⟨r5, 1, none⟩ : Addr) = some (Value.int .i64 n9) ∧
  ∃ n10 : Int, World.cell? w6 (⟨r5, 2, none⟩ : Addr) = some (Value.int .i64 n10) ∧
  newS w6 (.cells ⟨[(Value.int .i64 (2 : Int)), (Value.int .i64 n8), (Value.int .i64 n9), (Value.int .i64 n10)]⟩ 3) fun r11 w12 =>
  Calls Tryd.prog fn_tidewaterref33_framed ⟨[(Slc.v s7), (Slc.v (⟨(some (⟨r11, 0, none⟩ : Addr)), 4, 4⟩ : Slc))]⟩ w12 fun e13 w14 =>
  ∃ s15 : Slc, e13 = .returned (Slc.v s15) ∧
  K (Slc.v s15) w14

theorem tidewaterref33_Tell_eq (r1 : Int) (r2 : Int) (r3 : Int) (r4 : Slc) (w : World) (K : Value → World → Prop) : tidewaterref33_Tell r1 r2 r3 r4 w K = denF Tryd.prog callB Tryd.f35 .none [(Value.agg ⟨[(Value.int .i64 r1), (Value.int .i64 r2), (Value.int .i64 r3), (Slc.v r4)]⟩)] w K := by kernel_rfl
theorem tidewaterref33_Tell_ok (r1 : Int) (r2 : Int) (r3 : Int) (r4 : Slc) {w : World} {R : Ending → World → Prop} (h : tidewaterref33_Tell r1 r2 r3 r4 w fun v w' => R (.returned v) w') : Calls Tryd.prog fn_tidewaterref33_Tell ⟨[(Value.agg ⟨[(Value.int .i64 r1), (Value.int .i64 r2), (Value.int .i64 r3), (Slc.v r4)]⟩)]⟩ w R :=
  calls_of_den callB_ok mixed Tryd.func35 (tidewaterref33_Tell_eq r1 r2 r3 r4 w _ ▸ h)

/-- tidewater/wire.Read -/
def wire_Read (b1 : Slc) (w : World) (K : Value → World → Prop) : Prop :=
  newS w (.cells ⟨[(Value.int .i64 (0 : Int)), (Value.int .i64 (0 : Int)), (Value.int .i64 (0 : Int)), (Value.int .i64 (0 : Int)), (Slc.v (⟨none, 0, 0⟩ : Slc))]⟩ 43) fun r2 w3 =>
  newS w3 (.cells ⟨[(Value.int .i64 (0 : Int)), (Value.int .i64 (0 : Int)), (Value.int .i64 (0 : Int)), (Slc.v (⟨none, 0, 0⟩ : Slc))]⟩ 48) fun r4 w5 =>
  Calls Tryd.prog fn_sums_Open ⟨[(Slc.v b1)]⟩ w5 fun e6 w7 =>
  ∃ s8 : Slc, ∃ s9 : Slc, ∃ e10 : Value, e6 = .returned (Value.tuple ⟨[(Slc.v s8), (Slc.v s9), e10]⟩) ∧
  isI e10 ∧
  BIf (!isNilI e10) (
    canW w7 (⟨r2, 0, none⟩ : Addr) 5 ∧ ∀ w11 : World, w11 = setCells w7 (⟨r2, 0, none⟩ : Addr) 0 [(Value.int .i64 (0 : Int)), (Value.int .i64 (0 : Int)), (Value.int .i64 (0 : Int)), (Value.int .i64 (0 : Int)), (Slc.v (⟨none, 0, 0⟩ : Slc))] →
    canW w11 (⟨r4, 0, none⟩ : Addr) 4 ∧ ∀ w12 : World, w12 = setCells w11 (⟨r4, 0, none⟩ : Addr) 0 [(Value.int .i64 (0 : Int)), (Value.int .i64 (0 : Int)), (Value.int .i64 (0 : Int)), (Slc.v (⟨none, 0, 0⟩ : Slc))] →
    ∃ n13 : Int, ∃ n14 : Int, ∃ n15 : Int, ∃ n16 : Int, ∃ s17 : Slc, rowAt w12 (⟨r2, 0, none⟩ : Addr) 0 [(Value.int .i64 n13), (Value.int .i64 n14), (Value.int .i64 n15), (Value.int .i64 n16), (Slc.v s17)] ∧
    ∃ n18 : Int, ∃ n19 : Int, ∃ n20 : Int, ∃ s21 : Slc, rowAt w12 (⟨r4, 0, none⟩ : Addr) 0 [(Value.int .i64 n18), (Value.int .i64 n19), (Value.int .i64 n20), (Slc.v s21)] ∧
    K (Value.tuple ⟨[(Value.agg ⟨[(Value.int .i64 n13), (Value.int .i64 n14), (Value.int .i64 n15), (Value.int .i64 n16), (Slc.v s17)]⟩), (Value.agg ⟨[(Value.int .i64 n18), (Value.int .i64 n19), (Value.int .i64 n20), (Slc.v s21)]⟩), (Value.bool false), e10]⟩) w12) (
    BIf (decide ((0 : Int) < ((s9.l : Nat) : Int))) (
      ∃ v22 : Value, World.cell? (World.drew w7) (⟨gl_ErrForm, 0, none⟩ : Addr) = some v22 ∧
      canW (World.drew w7) (⟨r2, 0, none⟩ : Addr) 5 ∧ ∀ w23 : World, w23 = setCells (World.drew w7) (⟨r2, 0, none⟩ : Addr) 0 [(Value.int .i64 (0 : Int)), (Value.int .i64 (0 : Int)), (Value.int .i64 (0 : Int)), (Value.int .i64 (0 : Int)), (Slc.v (⟨none, 0, 0⟩ : Slc))] →
      (∃ v24 : Value, World.cell? w23 (⟨gl_ErrForm, 0, none⟩ : Addr) = some v24 ∧
      v24 = v22) ∧
      canW w23 (⟨r4, 0, none⟩ : Addr) 4 ∧ ∀ w25 : World, w25 = setCells w23 (⟨r4, 0, none⟩ : Addr) 0 [(Value.int .i64 (0 : Int)), (Value.int .i64 (0 : Int)), (Value.int .i64 (0 : Int)), (Slc.v (⟨none, 0, 0⟩ : Slc))] →
      (∃ v26 : Value, World.cell? w25 (⟨gl_ErrForm, 0, none⟩ : Addr) = some v26 ∧
      v26 = v22) ∧
      ∃ n27 : Int, ∃ n28 : Int, ∃ n29 : Int, ∃ n30 : Int, ∃ s31 : Slc, rowAt w25 (⟨r2, 0, none⟩ : Addr) 0 [(Value.int .i64 n27), (Value.int .i64 n28), (Value.int .i64 n29), (Value.int .i64 n30), (Slc.v s31)] ∧
      ∃ n32 : Int, ∃ n33 : Int, ∃ n34 : Int, ∃ s35 : Slc, rowAt w25 (⟨r4, 0, none⟩ : Addr) 0 [(Value.int .i64 n32), (Value.int .i64 n33), (Value.int .i64 n34), (Slc.v s35)] ∧
      K (Value.tuple ⟨[(Value.agg ⟨[(Value.int .i64 n27), (Value.int .i64 n28), (Value.int .i64 n29), (Value.int .i64 n30), (Slc.v s31)]⟩), (Value.agg ⟨[(Value.int .i64 n32), (Value.int .i64 n33), (Value.int .i64 n34), (Slc.v s35)]⟩), (Value.bool false), v22]⟩) w25) (
      Calls Tryd.prog fn_pack_Read ⟨[(Slc.v s8)]⟩ w7 fun e36 w37 =>
      ∃ p38 : Option Addr, e36 = .returned (Value.pointer p38) ∧
      newS w37 (.cells ⟨[(Value.int .i64 (0 : Int)), (Value.int .i64 (0 : Int)), (Value.int .i64 (0 : Int)), (Value.int .i64 (0 : Int)), (Slc.v (⟨none, 0, 0⟩ : Slc))]⟩ 43) fun r39 w40 =>
      newS w40 (.cells ⟨[(Value.int .i64 (0 : Int)), (Value.int .i64 (0 : Int)), (Value.int .i64 (0 : Int)), (Slc.v (⟨none, 0, 0⟩ : Slc))]⟩ 48) fun r41 w42 =>
      Calls Tryd.prog fn_pack_In_Num ⟨[(Value.pointer p38), (Value.int .i64 (2 : Int))]⟩ w42 fun e43 w44 =>
      ∃ n45 : Int, e43 = .returned (Value.int .i64 n45) ∧
      ∃ J46 : World → Prop,
      (
        BIf (decide (n45 = (2 : Int))) (
          Calls Tryd.prog fn_pack_In_Num ⟨[(Value.pointer p38), (Value.int .i64 (1073741824 : Int))]⟩ w44 fun e47 w48 =>
          ∃ n49 : Int, e47 = .returned (Value.int .i64 n49) ∧
          Calls Tryd.prog fn_wire_table ⟨[]⟩ w48 fun e50 w51 =>
          ∃ s52 : Slc, e50 = .returned (Slc.v s52) ∧
          Calls Tryd.prog fn_pack_In_Num ⟨[(Value.pointer p38), (Value.int .i64 ((s52.l : Nat) : Int))]⟩ w51 fun e53 w54 =>
          ∃ n55 : Int, e53 = .returned (Value.int .i64 n55) ∧
          Calls Tryd.prog fn_pack_In_Num ⟨[(Value.pointer p38), (Value.int .i64 (4096 : Int))]⟩ w54 fun e56 w57 =>
          ∃ n58 : Int, e56 = .returned (Value.int .i64 n58) ∧
          canW w57 (⟨r41, 0, none⟩ : Addr) 4 ∧ ∀ w59 : World, w59 = setCells w57 (⟨r41, 0, none⟩ : Addr) 0 [(Value.int .i64 n49), (Value.int .i64 n55), (Value.int .i64 n58), (Slc.v (⟨none, 0, 0⟩ : Slc))] →
          Calls Tryd.prog fn_pack_In_Text ⟨[(Value.pointer p38), (Value.int .i64 (2000 : Int))]⟩ w59 fun e60 w61 =>
          ∃ t62 : List UInt8, e60 = .returned (strV t62) ∧
          bytesK Tryd.prog 5 t62 w61 fun s63 w64 =>
          canW w64 (⟨r41, 3, none⟩ : Addr) 1 ∧ ∀ w65 : World, w65 = World.setCell w64 (⟨r41, 3, none⟩ : Addr) (Slc.v s63) →
          J46 w65) (
          Calls Tryd.prog fn_pack_In_Num ⟨[(Value.pointer p38), (Value.int .i64 (1073741824 : Int))]⟩ w44 fun e66 w67 =>
          ∃ n68 : Int, e66 = .returned (Value.int .i64 n68) ∧
          Calls Tryd.prog fn_pack_In_Num ⟨[(Value.pointer p38), (Value.int .i64 (5 : Int))]⟩ w67 fun e69 w70 =>
          ∃ n71 : Int, e69 = .returned (Value.int .i64 n71) ∧
          Calls Tryd.prog fn_pack_In_Num ⟨[(Value.pointer p38), (Value.int .i64 (1073741824 : Int))]⟩ w70 fun e72 w73 =>
          ∃ n74 : Int, e72 = .returned (Value.int .i64 n74) ∧
          Calls Tryd.prog fn_pack_In_Num ⟨[(Value.pointer p38), (Value.int .i64 (4096 : Int))]⟩ w73 fun e75 w76 =>
          ∃ n77 : Int, e75 = .returned (Value.int .i64 n77) ∧
          canW w76 (⟨r39, 0, none⟩ : Addr) 5 ∧ ∀ w78 : World, w78 = setCells w76 (⟨r39, 0, none⟩ : Addr) 0 [(Value.int .i64 n68), (Value.int .i64 n71), (Value.int .i64 n74), (Value.int .i64 n77), (Slc.v (⟨none, 0, 0⟩ : Slc))] →
          Calls Tryd.prog fn_pack_In_Text ⟨[(Value.pointer p38), (Value.int .i64 (2000 : Int))]⟩ w78 fun e79 w80 =>
          ∃ t81 : List UInt8, e79 = .returned (strV t81) ∧
          bytesK Tryd.prog 5 t81 w80 fun s82 w83 =>
          canW w83 (⟨r39, 4, none⟩ : Addr) 1 ∧ ∀ w84 : World, w84 = World.setCell w83 (⟨r39, 4, none⟩ : Addr) (Slc.v s82) →
          J46 w84)) ∧ (
      ∀ w85 : World, J46 w85 → ∀ u86 u87 u88 u89 u90 u91 u92 u93 u94 u95 u96 u97 u98 u99 u100 u101 u102 u103 u104 u105 u106 u107 u108 u109 u110 u111 u112 u113 : Value,
        Calls Tryd.prog fn_pack_In_End ⟨[(Value.pointer p38)]⟩ w85 fun e114 w115 =>
        ∃ e116 : Value, e114 = .returned e116 ∧
        isI e116 ∧
        BIf (!isNilI e116) (
          canW w115 (⟨r2, 0, none⟩ : Addr) 5 ∧ ∀ w117 : World, w117 = setCells w115 (⟨r2, 0, none⟩ : Addr) 0 [(Value.int .i64 (0 : Int)), (Value.int .i64 (0 : Int)), (Value.int .i64 (0 : Int)), (Value.int .i64 (0 : Int)), (Slc.v (⟨none, 0, 0⟩ : Slc))] →
          canW w117 (⟨r4, 0, none⟩ : Addr) 4 ∧ ∀ w118 : World, w118 = setCells w117 (⟨r4, 0, none⟩ : Addr) 0 [(Value.int .i64 (0 : Int)), (Value.int .i64 (0 : Int)), (Value.int .i64 (0 : Int)), (Slc.v (⟨none, 0, 0⟩ : Slc))] →
          ∃ n119 : Int, ∃ n120 : Int, ∃ n121 : Int, ∃ n122 : Int, ∃ s123 : Slc, rowAt w118 (⟨r2, 0, none⟩ : Addr) 0 [(Value.int .i64 n119), (Value.int .i64 n120), (Value.int .i64 n121), (Value.int .i64 n122), (Slc.v s123)] ∧
          ∃ n124 : Int, ∃ n125 : Int, ∃ n126 : Int, ∃ s127 : Slc, rowAt w118 (⟨r4, 0, none⟩ : Addr) 0 [(Value.int .i64 n124), (Value.int .i64 n125), (Value.int .i64 n126), (Slc.v s127)] ∧
          K (Value.tuple ⟨[(Value.agg ⟨[(Value.int .i64 n119), (Value.int .i64 n120), (Value.int .i64 n121), (Value.int .i64 n122), (Slc.v s123)]⟩), (Value.agg ⟨[(Value.int .i64 n124), (Value.int .i64 n125), (Value.int .i64 n126), (Slc.v s127)]⟩), (Value.bool false), e116]⟩) w118) (
          BIf (decide (n45 = (2 : Int))) (
            ∃ n128 : Int, ∃ n129 : Int, ∃ n130 : Int, ∃ s131 : Slc, rowAt (World.drew w115) (⟨r41, 0, none⟩ : Addr) 0 [(Value.int .i64 n128), (Value.int .i64 n129), (Value.int .i64 n130), (Slc.v s131)] ∧
            canW (World.drew w115) (⟨r2, 0, none⟩ : Addr) 5 ∧ ∀ w132 : World, w132 = setCells (World.drew w115) (⟨r2, 0, none⟩ : Addr) 0 [(Value.int .i64 (0 : Int)), (Value.int .i64 (0 : Int)), (Value.int .i64 (0 : Int)), (Value.int .i64 (0 : Int)), (Slc.v (⟨none, 0, 0⟩ : Slc))] →
            (∃ n133 : Int, ∃ n134 : Int, ∃ n135 : Int, ∃ s136 : Slc, rowAt w132 (⟨r41, 0, none⟩ : Addr) 0 [(Value.int .i64 n133), (Value.int .i64 n134), (Value.int .i64 n135), (Slc.v s136)] ∧
            (Value.agg ⟨[(Value.int .i64 n133), (Value.int .i64 n134), (Value.int .i64 n135), (Slc.v s136)]⟩) = (Value.agg ⟨[(Value.int .i64 n128), (Value.int .i64 n129), (Value.int .i64 n130), (Slc.v s131)]⟩)) ∧
            canW w132 (⟨r4, 0, none⟩ : Addr) 4 ∧ ∀ w137 : World, w137 = setCells w132 (⟨r4, 0, none⟩ : Addr) 0 [(Value.int .i64 n128), (Value.int .i64 n129), (Value.int .i64 n130), (Slc.v s131)] →
            ∃ n138 : Int, ∃ n139 : Int, ∃ n140 : Int, ∃ n141 : Int, ∃ s142 : Slc, rowAt w137 (⟨r2, 0, none⟩ : Addr) 0 [(Value.int .i64 n138), (Value.int .i64 n139), (Value.int .i64 n140), (Value.int .i64 n141), (Slc.v s142)] ∧
            ∃ n143 : Int, ∃ n144 : Int, ∃ n145 : Int, ∃ s146 : Slc, rowAt w137 (⟨r4, 0, none⟩ : Addr) 0 [(Value.int .i64 n143), (Value.int .i64 n144), (Value.int .i64 n145), (Slc.v s146)] ∧
            K (Value.tuple ⟨[(Value.agg ⟨[(Value.int .i64 n138), (Value.int .i64 n139), (Value.int .i64 n140), (Value.int .i64 n141), (Slc.v s142)]⟩), (Value.agg ⟨[(Value.int .i64 n143), (Value.int .i64 n144), (Value.int .i64 n145), (Slc.v s146)]⟩), (Value.bool false), Value.nilIface]⟩) w137) (
            BIf (!decide (n45 = (1 : Int))) (
              ∃ v147 : Value, World.cell? (World.drew w115) (⟨gl_ErrForm, 0, none⟩ : Addr) = some v147 ∧
              canW (World.drew w115) (⟨r2, 0, none⟩ : Addr) 5 ∧ ∀ w148 : World, w148 = setCells (World.drew w115) (⟨r2, 0, none⟩ : Addr) 0 [(Value.int .i64 (0 : Int)), (Value.int .i64 (0 : Int)), (Value.int .i64 (0 : Int)), (Value.int .i64 (0 : Int)), (Slc.v (⟨none, 0, 0⟩ : Slc))] →
              (∃ v149 : Value, World.cell? w148 (⟨gl_ErrForm, 0, none⟩ : Addr) = some v149 ∧
              v149 = v147) ∧
              canW w148 (⟨r4, 0, none⟩ : Addr) 4 ∧ ∀ w150 : World, w150 = setCells w148 (⟨r4, 0, none⟩ : Addr) 0 [(Value.int .i64 (0 : Int)), (Value.int .i64 (0 : Int)), (Value.int .i64 (0 : Int)), (Slc.v (⟨none, 0, 0⟩ : Slc))] →
              (∃ v151 : Value, World.cell? w150 (⟨gl_ErrForm, 0, none⟩ : Addr) = some v151 ∧
              v151 = v147) ∧
              ∃ n152 : Int, ∃ n153 : Int, ∃ n154 : Int, ∃ n155 : Int, ∃ s156 : Slc, rowAt w150 (⟨r2, 0, none⟩ : Addr) 0 [(Value.int .i64 n152), (Value.int .i64 n153), (Value.int .i64 n154), (Value.int .i64 n155), (Slc.v s156)] ∧
              ∃ n157 : Int, ∃ n158 : Int, ∃ n159 : Int, ∃ s160 : Slc, rowAt w150 (⟨r4, 0, none⟩ : Addr) 0 [(Value.int .i64 n157), (Value.int .i64 n158), (Value.int .i64 n159), (Slc.v s160)] ∧
              K (Value.tuple ⟨[(Value.agg ⟨[(Value.int .i64 n152), (Value.int .i64 n153), (Value.int .i64 n154), (Value.int .i64 n155), (Slc.v s156)]⟩), (Value.agg ⟨[(Value.int .i64 n157), (Value.int .i64 n158), (Value.int .i64 n159), (Slc.v s160)]⟩), (Value.bool false), v147]⟩) w150) (
              ∃ n161 : Int, ∃ n162 : Int, ∃ n163 : Int, ∃ n164 : Int, ∃ s165 : Slc, rowAt w115 (⟨r39, 0, none⟩ : Addr) 0 [(Value.int .i64 n161), (Value.int .i64 n162), (Value.int .i64 n163), (Value.int .i64 n164), (Slc.v s165)] ∧
              Calls Tryd.prog fn_wire_Request_right ⟨[(Value.agg ⟨[(Value.int .i64 n161), (Value.int .i64 n162), (Value.int .i64 n163), (Value.int .i64 n164), (Slc.v s165)]⟩)]⟩ w115 fun e166 w167 =>
              ∃ b168 : Bool, e166 = .returned (Value.bool b168) ∧
              BIf (!b168) (
                ∃ v169 : Value, World.cell? (World.drew w167) (⟨gl_ErrForm, 0, none⟩ : Addr) = some v169 ∧
                canW (World.drew w167) (⟨r2, 0, none⟩ : Addr) 5 ∧ ∀ w170 : World, w170 = setCells (World.drew w167) (⟨r2, 0, none⟩ : Addr) 0 [(Value.int .i64 (0 : Int)), (Value.int .i64 (0 : Int)), (Value.int .i64 (0 : Int)), (Value.int .i64 (0 : Int)), (Slc.v (⟨none, 0, 0⟩ : Slc))] →
                (∃ v171 : Value, World.cell? w170 (⟨gl_ErrForm, 0, none⟩ : Addr) = some v171 ∧
                v171 = v169) ∧
                canW w170 (⟨r4, 0, none⟩ : Addr) 4 ∧ ∀ w172 : World, w172 = setCells w170 (⟨r4, 0, none⟩ : Addr) 0 [(Value.int .i64 (0 : Int)), (Value.int .i64 (0 : Int)), (Value.int .i64 (0 : Int)), (Slc.v (⟨none, 0, 0⟩ : Slc))] →
                (∃ v173 : Value, World.cell? w172 (⟨gl_ErrForm, 0, none⟩ : Addr) = some v173 ∧
                v173 = v169) ∧
                ∃ n174 : Int, ∃ n175 : Int, ∃ n176 : Int, ∃ n177 : Int, ∃ s178 : Slc, rowAt w172 (⟨r2, 0, none⟩ : Addr) 0 [(Value.int .i64 n174), (Value.int .i64 n175), (Value.int .i64 n176), (Value.int .i64 n177), (Slc.v s178)] ∧
                ∃ n179 : Int, ∃ n180 : Int, ∃ n181 : Int, ∃ s182 : Slc, rowAt w172 (⟨r4, 0, none⟩ : Addr) 0 [(Value.int .i64 n179), (Value.int .i64 n180), (Value.int .i64 n181), (Slc.v s182)] ∧
                K (Value.tuple ⟨[(Value.agg ⟨[(Value.int .i64 n174), (Value.int .i64 n175), (Value.int .i64 n176), (Value.int .i64 n177), (Slc.v s178)]⟩), (Value.agg ⟨[(Value.int .i64 n179), (Value.int .i64 n180), (Value.int .i64 n181), (Slc.v s182)]⟩), (Value.bool false), v169]⟩) w172) (
                ∃ n183 : Int, ∃ n184 : Int, ∃ n185 : Int, ∃ n186 : Int, ∃ s187 : Slc, rowAt w167 (⟨r39, 0, none⟩ : Addr) 0 [(Value.int .i64 n183), (Value.int .i64 n184), (Value.int .i64 n185), (Value.int .i64 n186), (Slc.v s187)] ∧
                canW w167 (⟨r2, 0, none⟩ : Addr) 5 ∧ ∀ w188 : World, w188 = setCells w167 (⟨r2, 0, none⟩ : Addr) 0 [(Value.int .i64 n183), (Value.int .i64 n184), (Value.int .i64 n185), (Value.int .i64 n186), (Slc.v s187)] →
                canW w188 (⟨r4, 0, none⟩ : Addr) 4 ∧ ∀ w189 : World, w189 = setCells w188 (⟨r4, 0, none⟩ : Addr) 0 [(Value.int .i64 (0 : Int)), (Value.int .i64 (0 : Int)), (Value.int .i64 (0 : Int)), (Slc.v (⟨none, 0, 0⟩ : Slc))] →
                ∃ n190 : Int, ∃ n191 : Int, ∃ n192 : Int, ∃ n193 : Int, ∃ s194 : Slc, rowAt w189 (⟨r2, 0, none⟩ : Addr) 0 [(Value.int .i64 n190), (Value.int .i64 n191), (Value.int .i64 n192), (Value.int .i64 n193), (Slc.v s194)] ∧
                ∃ n195 : Int, ∃ n196 : Int, ∃ n197 : Int, ∃ s198 : Slc, rowAt w189 (⟨r4, 0, none⟩ : Addr) 0 [(Value.int .i64 n195), (Value.int .i64 n196), (Value.int .i64 n197), (Slc.v s198)] ∧
                K (Value.tuple ⟨[(Value.agg ⟨[(Value.int .i64 n190), (Value.int .i64 n191), (Value.int .i64 n192), (Value.int .i64 n193), (Slc.v s194)]⟩), (Value.agg ⟨[(Value.int .i64 n195), (Value.int .i64 n196), (Value.int .i64 n197), (Slc.v s198)]⟩), (Value.bool true), Value.nilIface]⟩) w189)))))))

theorem wire_Read_eq (b1 : Slc) (w : World) (K : Value → World → Prop) : wire_Read b1 w K = denF Tryd.prog callB Tryd.f29 (.two .none (.two .none (.two .none (.two .none (.two .none (.two .none (.two .none (.two .none (.cut [] [35, 36, 37, 38, 39, 40, 41, 42, 43, 44, 45, 46, 47, 48, 49, 50, 51, 52, 53, 54, 55, 56, 57, 58, 59, 60, 61, 62] .none .none))))))))) [(Slc.v b1)] w K := by kernel_rfl
theorem wire_Read_ok (b1 : Slc) {w : World} {R : Ending → World → Prop} (h : wire_Read b1 w fun v w' => R (.returned v) w') : Calls Tryd.prog fn_wire_Read ⟨[(Slc.v b1)]⟩ w R :=
  calls_of_den callB_ok mixed Tryd.func29 (wire_Read_eq b1 w _ ▸ h)

/-- tidewater/tidewaterlaw33.WireAsks -/
def tidewaterlaw33_WireAsks (r1 : Int) (r2 : Int) (r3 : Int) (r4 : Int) (r5 : Slc) (w : World) (K : Value → World → Prop) : Prop :=
  newS w (.cells ⟨[(Value.int .i64 r1), (Value.int .i64 r2), (Value.int .i64 r3), (Value.int .i64 r4), (Slc.v r5)]⟩ 43) fun r6 w7 =>
  Calls Tryd.prog fn_tidewaterlaw33_alive ⟨[]⟩ w7 fun e8 w9 =>
  ∃ b10 : Bool, e8 = .returned (Value.bool b10) ∧
  BIf (!b10) (
    K (Value.bool false) w9) (
    ∃ s11 : Slc, World.cell? w9 (⟨r6, 4, none⟩ : Addr) = some (Slc.v s11) ∧
    BIf (decide ((3000 : Int) < ((s11.l : Nat) : Int))) (
      K (Value.bool true) w9) (
      ∃ n12 : Int, ∃ n13 : Int, ∃ n14 : Int, ∃ n15 : Int, ∃ s16 : Slc, rowAt w9 (⟨r6, 0, none⟩ : Addr) 0 [(Value.int .i64 n12), (Value.int .i64 n13), (Value.int .i64 n14), (Value.int .i64 n15), (Slc.v s16)] ∧
      Calls Tryd.prog fn_wire_Ask ⟨[(Value.agg ⟨[(Value.int .i64 n12), (Value.int .i64 n13), (Value.int .i64 n14), (Value.int .i64 n15), (Slc.v s16)]⟩)]⟩ w9 fun e17 w18 =>
      ∃ s19 : Slc, ∃ e20 : Value, e17 = .returned (Value.tuple ⟨[(Slc.v s19), e20]⟩) ∧
      ∃ n21 : Int, ∃ n22 : Int, ∃ n23 : Int, ∃ n24 : Int, ∃ s25 : Slc, rowAt w18 (⟨r6, 0, none⟩ : Addr) 0 [(Value.int .i64 n21), (Value.int .i64 n22), (Value.int .i64 n23), (Value.int .i64 n24), (Slc.v s25)] ∧
      newS w18 (.cells ⟨[(Value.int .i64 (0 : Int)), (Value.int .i64 (0 : Int)), (Value.int .i64 (0 : Int)), (Value.int .i64 (0 : Int)), (Slc.v (⟨none, 0, 0⟩ : Slc))]⟩ 45) fun r26 w27 =>
      canW w27 (⟨r26, 0, none⟩ : Addr) 5 ∧ ∀ w28 : World, w28 = setCells w27 (⟨r26, 0, none⟩ : Addr) 0 [(Value.int .i64 n21), (Value.int .i64 n22), (Value.int .i64 n23), (Value.int .i64 n24), (Slc.v s25)] →
      ∃ n29 : Int, ∃ n30 : Int, ∃ n31 : Int, ∃ n32 : Int, ∃ s33 : Slc, rowAt w28 (⟨r26, 0, none⟩ : Addr) 0 [(Value.int .i64 n29), (Value.int .i64 n30), (Value.int .i64 n31), (Value.int .i64 n32), (Slc.v s33)] ∧
      Calls Tryd.prog fn_tidewaterref33_RightAsk ⟨[(Value.agg ⟨[(Value.int .i64 n29), (Value.int .i64 n30), (Value.int .i64 n31), (Value.int .i64 n32), (Slc.v s33)]⟩)]⟩ w28 fun e34 w35 =>
      ∃ b36 : Bool, e34 = .returned (Value.bool b36) ∧
      BIf (!b36) (
        BIf (decide (((s19.l : Nat) : Int) = (0 : Int))) (
          Calls Tryd.prog fn_tidewaternum_Num ⟨[e20]⟩ w35 fun e37 w38 =>
          ∃ n39 : Int, e37 = .returned (Value.int .i64 n39) ∧
          K (Value.bool (decide (n39 = (4 : Int)))) w38) (
          K (Value.bool false) w35)) (
        Calls Tryd.prog fn_wire_Read ⟨[(Slc.v s19)]⟩ w35 fun e40 w41 =>
        ∃ x42 : Int, ∃ x43 : Int, ∃ x44 : Int, ∃ x45 : Int, ∃ x46 : Slc, ∃ x47 : Int, ∃ x48 : Int, ∃ x49 : Int, ∃ x50 : Slc, ∃ b51 : Bool, ∃ e52 : Value, e40 = .returned (Value.tuple ⟨[(Value.agg ⟨[(Value.int .i64 x42), (Value.int .i64 x43), (Value.int .i64 x44), (Value.int .i64 x45), (Slc.v x46)]⟩), (Value.agg ⟨[(Value.int .i64 x47), (Value.int .i64 x48), (Value.int .i64 x49), (Slc.v x50)]⟩), (Value.bool b51), e52]⟩) ∧
        newS w41 (.cells ⟨[(Value.int .i64 (0 : Int)), (Value.int .i64 (0 : Int)), (Value.int .i64 (0 : Int)), (Value.int .i64 (0 : Int)), (Slc.v (⟨none, 0, 0⟩ : Slc))]⟩ 43) fun r53 w54 =>
        newS w54 (.cells ⟨[(Value.int .i64 (0 : Int)), (Value.int .i64 (0 : Int)), (Value.int .i64 (0 : Int)), (Slc.v (⟨none, 0, 0⟩ : Slc))]⟩ 48) fun r55 w56 =>
        canW w56 (⟨r53, 0, none⟩ : Addr) 5 ∧ ∀ w57 : World, w57 = setCells w56 (⟨r53, 0, none⟩ : Addr) 0 [(Value.int .i64 x42), (Value.int .i64 x43), (Value.int .i64 x44), (Value.int .i64 x45), (Slc.v x46)] →
        canW w57 (⟨r55, 0, none⟩ : Addr) 4 ∧ ∀ w58 : World, w58 = setCells w57 (⟨r55, 0, none⟩ : Addr) 0 [(Value.int .i64 x47), (Value.int .i64 x48), (Value.int .i64 x49), (Slc.v x50)] →
        isI e20 ∧
        BIf (isNilI e20) (
          ∃ t59 : List UInt8, bytesAt (World.drew w58) s19 t59 ∧
          ∃ n60 : Int, ∃ n61 : Int, ∃ n62 : Int, ∃ n63 : Int, ∃ s64 : Slc, rowAt (World.drew w58) (⟨r26, 0, none⟩ : Addr) 0 [(Value.int .i64 n60), (Value.int .i64 n61), (Value.int .i64 n62), (Value.int .i64 n63), (Slc.v s64)] ∧
          Calls Tryd.prog fn_tidewaterref33_Ask ⟨[(Value.agg ⟨[(Value.int .i64 n60), (Value.int .i64 n61), (Value.int .i64 n62), (Value.int .i64 n63), (Slc.v s64)]⟩)]⟩ (World.drew w58) fun e65 w66 =>
          ∃ s67 : Slc, e65 = .returned (Slc.v s67) ∧
          (∃ t68 : List UInt8, bytesAt w66 s19 t68 ∧
          (strV t68) = (strV t59)) ∧
          ∃ t69 : List UInt8, bytesAt w66 s67 t69 ∧
          BIf (decide (t59 = t69)) (
            isI e52 ∧
            BIf (isNilI e52) (
              BIf b51 (
                ∃ n70 : Int, ∃ n71 : Int, ∃ n72 : Int, ∃ n73 : Int, ∃ s74 : Slc, rowAt w66 (⟨r53, 0, none⟩ : Addr) 0 [(Value.int .i64 n70), (Value.int .i64 n71), (Value.int .i64 n72), (Value.int .i64 n73), (Slc.v s74)] ∧
                ∃ n75 : Int, ∃ n76 : Int, ∃ n77 : Int, ∃ n78 : Int, ∃ s79 : Slc, rowAt w66 (⟨r26, 0, none⟩ : Addr) 0 [(Value.int .i64 n75), (Value.int .i64 n76), (Value.int .i64 n77), (Value.int .i64 n78), (Slc.v s79)] ∧
                Calls Tryd.prog fn_tidewaterlaw33_sameAsk ⟨[(Value.agg ⟨[(Value.int .i64 n70), (Value.int .i64 n71), (Value.int .i64 n72), (Value.int .i64 n73), (Slc.v s74)]⟩), (Value.agg ⟨[(Value.int .i64 n75), (Value.int .i64 n76), (Value.int .i64 n77), (Value.int .i64 n78), (Slc.v s79)]⟩)]⟩ w66 fun e80 w81 =>
                ∃ b82 : Bool, e80 = .returned (Value.bool b82) ∧
                BIf b82 (
                  ∃ n83 : Int, ∃ n84 : Int, ∃ n85 : Int, ∃ s86 : Slc, rowAt w81 (⟨r55, 0, none⟩ : Addr) 0 [(Value.int .i64 n83), (Value.int .i64 n84), (Value.int .i64 n85), (Slc.v s86)] ∧
                  Calls Tryd.prog fn_tidewaterlaw33_sameTell ⟨[(Value.agg ⟨[(Value.int .i64 n83), (Value.int .i64 n84), (Value.int .i64 n85), (Slc.v s86)]⟩), (Value.agg ⟨[(Value.int .i64 (0 : Int)), (Value.int .i64 (0 : Int)), (Value.int .i64 (0 : Int)), (Slc.v (⟨none, 0, 0⟩ : Slc))]⟩)]⟩ w81 fun e87 w88 =>
                  ∃ b89 : Bool, e87 = .returned (Value.bool b89) ∧
                  K (Value.bool b89) w88) (
                  K (Value.bool false) w81)) (
                K (Value.bool false) w66)) (
              K (Value.bool false) w66)) (
            K (Value.bool false) w66)) (
          K (Value.bool false) (World.drew w58)))))

theorem tidewaterlaw33_WireAsks_eq (r1 : Int) (r2 : Int) (r3 : Int) (r4 : Int) (r5 : Slc) (w : World) (K : Value → World → Prop) : tidewaterlaw33_WireAsks r1 r2 r3 r4 r5 w K = denF Tryd.prog callB Tryd.f8 .none [(Value.agg ⟨[(Value.int .i64 r1), (Value.int .i64 r2), (Value.int .i64 r3), (Value.int .i64 r4), (Slc.v r5)]⟩)] w K := by kernel_rfl
theorem tidewaterlaw33_WireAsks_ok (r1 : Int) (r2 : Int) (r3 : Int) (r4 : Int) (r5 : Slc) {w : World} {R : Ending → World → Prop} (h : tidewaterlaw33_WireAsks r1 r2 r3 r4 r5 w fun v w' => R (.returned v) w') : Calls Tryd.prog fn_tidewaterlaw33_WireAsks ⟨[(Value.agg ⟨[(Value.int .i64 r1), (Value.int .i64 r2), (Value.int .i64 r3), (Value.int .i64 r4), (Slc.v r5)]⟩)]⟩ w R :=
  calls_of_den callB_ok mixed Tryd.func8 (tidewaterlaw33_WireAsks_eq r1 r2 r3 r4 r5 w _ ▸ h)

/-- tidewater/tidewaterlaw33.WireBurst -/
def tidewaterlaw33_WireBurst (r1 : Int) (r2 : Int) (r3 : Int) (r4 : Int) (r5 : Slc) (at6 : Int) (by7 : Int) (w : World) (K : Value → World → Prop) : Prop :=
  newS w (.cells ⟨[(Value.int .i64 r1), (Value.int .i64 r2), (Value.int .i64 r3), (Value.int .i64 r4), (Slc.v r5)]⟩ 43) fun r8 w9 =>
  Calls Tryd.prog fn_tidewaterlaw33_alive ⟨[]⟩ w9 fun e10 w11 =>
  ∃ b12 : Bool, e10 = .returned (Value.bool b12) ∧
  BIf (!b12) (
    K (Value.bool false) w11) (
    ∃ J13 : World → Prop,
    (
      ∃ s14 : Slc, World.cell? w11 (⟨r8, 4, none⟩ : Addr) = some (Slc.v s14) ∧
      BIf (decide ((3000 : Int) < ((s14.l : Nat) : Int))) (
        K (Value.bool true) w11) (
        BIf (decide (by7 = (0 : Int))) (
          K (Value.bool true) w11) (
          J13 w11))) ∧ (
    ∀ w15 : World, J13 w15 → ∀ u16 u17 u18 u19 u20 u21 u22 u23 u24 : Value,
      ∃ n25 : Int, ∃ n26 : Int, ∃ n27 : Int, ∃ n28 : Int, ∃ s29 : Slc, rowAt w15 (⟨r8, 0, none⟩ : Addr) 0 [(Value.int .i64 n25), (Value.int .i64 n26), (Value.int .i64 n27), (Value.int .i64 n28), (Slc.v s29)] ∧
      Calls Tryd.prog fn_wire_Ask ⟨[(Value.agg ⟨[(Value.int .i64 n25), (Value.int .i64 n26), (Value.int .i64 n27), (Value.int .i64 n28), (Slc.v s29)]⟩)]⟩ w15 fun e30 w31 =>
      ∃ s32 : Slc, ∃ e33 : Value, e30 = .returned (Value.tuple ⟨[(Slc.v s32), e33]⟩) ∧
      isI e33 ∧
      BIf (!isNilI e33) (
        K (Value.bool (decide (((s32.l : Nat) : Int) = (0 : Int)))) w31) (
        BIf (decide (((s32.l : Nat) : Int) < (10 : Int))) (
          K (Value.bool false) w31) (
          inR .i64 (((s32.l : Nat) : Int) - (9 : Int)) ∧
          0 ≤ (IntKind.wrap .u64 at6) ∧ 0 < (IntKind.wrap .u64 (((s32.l : Nat) : Int) - (9 : Int))) ∧
          inR .i64 ((6 : Int) + (IntKind.wrap .i64 ((IntKind.wrap .u64 at6) % (IntKind.wrap .u64 (((s32.l : Nat) : Int) - (9 : Int)))))) ∧
          ∃ (I34 : (Int) → World → Prop) (mu35 : (Int) → World → Nat), I34 ((0 : Int)) w31 ∧ (
          ∀ i36 : Int, ∀ w37 : World, I34 i36 w37 → ∀ u38 u39 u40 u41 u42 u43 u44 u45 u46 u47 u48 u49 u50 u51 u52 u53 u54 : Value,
            BIf (decide (i36 < (4 : Int))) (
              inR .i64 (((6 : Int) + (IntKind.wrap .i64 ((IntKind.wrap .u64 at6) % (IntKind.wrap .u64 (((s32.l : Nat) : Int) - (9 : Int)))))) + i36) ∧
              needSome s32.p fun a55 =>
              0 ≤ (((6 : Int) + (IntKind.wrap .i64 ((IntKind.wrap .u64 at6) % (IntKind.wrap .u64 (((s32.l : Nat) : Int) - (9 : Int)))))) + i36) ∧ (((6 : Int) + (IntKind.wrap .i64 ((IntKind.wrap .u64 at6) % (IntKind.wrap .u64 (((s32.l : Nat) : Int) - (9 : Int)))))) + i36) < ((s32.l : Nat) : Int) ∧
              ∃ n56 : Int, World.cell? (World.drew w37) (Addr.add a55 ((Int.toNat (((6 : Int) + (IntKind.wrap .i64 ((IntKind.wrap .u64 at6) % (IntKind.wrap .u64 (((s32.l : Nat) : Int) - (9 : Int)))))) + i36)) * 1)) = some (Value.int .u8 n56) ∧
              inR .i64 ((8 : Int) * i36) ∧
              0 ≤ ((8 : Int) * i36) ∧ 0 ≤ by7 ∧
              0 ≤ n56 ∧ 0 ≤ (IntKind.wrap .u8 (by7 / ((2 ^ min (Int.toNat ((8 : Int) * i36)) 32 : Nat) : Int))) ∧ inR .u8 n56 ∧ inR .u8 (IntKind.wrap .u8 (by7 / ((2 ^ min (Int.toNat ((8 : Int) * i36)) 32 : Nat) : Int))) ∧
              needSome s32.p fun a57 =>
              0 ≤ (((6 : Int) + (IntKind.wrap .i64 ((IntKind.wrap .u64 at6) % (IntKind.wrap .u64 (((s32.l : Nat) : Int) - (9 : Int)))))) + i36) ∧ (((6 : Int) + (IntKind.wrap .i64 ((IntKind.wrap .u64 at6) % (IntKind.wrap .u64 (((s32.l : Nat) : Int) - (9 : Int)))))) + i36) < ((s32.l : Nat) : Int) ∧
              canW (World.drew w37) (Addr.add a57 ((Int.toNat (((6 : Int) + (IntKind.wrap .i64 ((IntKind.wrap .u64 at6) % (IntKind.wrap .u64 (((s32.l : Nat) : Int) - (9 : Int)))))) + i36)) * 1)) 1 ∧ ∀ w58 : World, w58 = World.setCell (World.drew w37) (Addr.add a57 ((Int.toNat (((6 : Int) + (IntKind.wrap .i64 ((IntKind.wrap .u64 at6) % (IntKind.wrap .u64 (((s32.l : Nat) : Int) - (9 : Int)))))) + i36)) * 1)) (Value.int .u8 (bitsI .xor n56 (IntKind.wrap .u8 (by7 / ((2 ^ min (Int.toNat ((8 : Int) * i36)) 32 : Nat) : Int))))) →
              inR .i64 (i36 + (1 : Int)) ∧
              (I34 ((i36 + (1 : Int))) w58 ∧ mu35 ((i36 + (1 : Int))) w58 < mu35 i36 w37)) (
              Calls Tryd.prog fn_wire_Read ⟨[(Slc.v s32)]⟩ w37 fun e59 w60 =>
              ∃ x61 : Int, ∃ x62 : Int, ∃ x63 : Int, ∃ x64 : Int, ∃ x65 : Slc, ∃ x66 : Int, ∃ x67 : Int, ∃ x68 : Int, ∃ x69 : Slc, ∃ b70 : Bool, ∃ e71 : Value, e59 = .returned (Value.tuple ⟨[(Value.agg ⟨[(Value.int .i64 x61), (Value.int .i64 x62), (Value.int .i64 x63), (Value.int .i64 x64), (Slc.v x65)]⟩), (Value.agg ⟨[(Value.int .i64 x66), (Value.int .i64 x67), (Value.int .i64 x68), (Slc.v x69)]⟩), (Value.bool b70), e71]⟩) ∧
              Calls Tryd.prog fn_tidewaternum_Num ⟨[e71]⟩ w60 fun e72 w73 =>
              ∃ n74 : Int, e72 = .returned (Value.int .i64 n74) ∧
              K (Value.bool (decide (n74 = (5 : Int)))) w73))))))

theorem tidewaterlaw33_WireBurst_eq (r1 : Int) (r2 : Int) (r3 : Int) (r4 : Int) (r5 : Slc) (at6 : Int) (by7 : Int) (w : World) (K : Value → World → Prop) : tidewaterlaw33_WireBurst r1 r2 r3 r4 r5 at6 by7 w K = denF Tryd.prog callB Tryd.f9 (.two .none (.two .none (.cut [] [6, 13, 14, 15, 16, 17, 18, 19, 20] .none (.two .none (.two .none (.two .none (.two .none (.two (.two .none (.one (.loop [(43, (Sh.int .i64))] [10, 44, 45, 46, 47, 48, 49, 50, 51, 52, 53, 54, 55, 56, 57, 58, 59] .none))) .none)))))))) [(Value.agg ⟨[(Value.int .i64 r1), (Value.int .i64 r2), (Value.int .i64 r3), (Value.int .i64 r4), (Slc.v r5)]⟩), (Value.int .i64 at6), (Value.int .u32 by7)] w K := by kernel_rfl
theorem tidewaterlaw33_WireBurst_ok (r1 : Int) (r2 : Int) (r3 : Int) (r4 : Int) (r5 : Slc) (at6 : Int) (by7 : Int) {w : World} {R : Ending → World → Prop} (h : tidewaterlaw33_WireBurst r1 r2 r3 r4 r5 at6 by7 w fun v w' => R (.returned v) w') : Calls Tryd.prog fn_tidewaterlaw33_WireBurst ⟨[(Value.agg ⟨[(Value.int .i64 r1), (Value.int .i64 r2), (Value.int .i64 r3), (Value.int .i64 r4), (Slc.v r5)]⟩), (Value.int .i64 at6), (Value.int .u32 by7)]⟩ w R :=
  calls_of_den callB_ok mixed Tryd.func9 (tidewaterlaw33_WireBurst_eq r1 r2 r3 r4 r5 at6 by7 w _ ▸ h)

/-- tidewater/tidewaterlaw33.WireTells -/
def tidewaterlaw33_WireTells (r1 : Int) (r2 : Int) (r3 : Int) (r4 : Slc) (w : World) (K : Value → World → Prop) : Prop :=
  newS w (.cells ⟨[(Value.int .i64 r1), (Value.int .i64 r2), (Value.int .i64 r3), (Slc.v r4)]⟩ 48) fun r5 w6 =>
  Calls Tryd.prog fn_tidewaterlaw33_alive ⟨[]⟩ w6 fun e7 w8 =>
  ∃ b9 : Bool, e7 = .returned (Value.bool b9) ∧
  BIf (!b9) (
    K (Value.bool false) w8) (
    ∃ s10 : Slc, World.cell? w8 (⟨r5, 3, none⟩ : Addr) = some (Slc.v s10) ∧
    BIf (decide ((3000 : Int) < ((s10.l : Nat) : Int))) (
      K (Value.bool true) w8) (
      ∃ n11 : Int, ∃ n12 : Int, ∃ n13 : Int, ∃ s14 : Slc, rowAt w8 (⟨r5, 0, none⟩ : Addr) 0 [(Value.int .i64 n11), (Value.int .i64 n12), (Value.int .i64 n13), (Slc.v s14)] ∧
      Calls Tryd.prog fn_wire_Tell ⟨[(Value.agg ⟨[(Value.int .i64 n11), (Value.int .i64 n12), (Value.int .i64 n13), (Slc.v s14)]⟩)]⟩ w8 fun e15 w16 =>
      ∃ s17 : Slc, ∃ e18 : Value, e15 = .returned (Value.tuple ⟨[(Slc.v s17), e18]⟩) ∧
      ∃ n19 : Int, ∃ n20 : Int, ∃ n21 : Int, ∃ s22 : Slc, rowAt w16 (⟨r5, 0, none⟩ : Addr) 0 [(Value.int .i64 n19), (Value.int .i64 n20), (Value.int .i64 n21), (Slc.v s22)] ∧
      newS w16 (.cells ⟨[(Value.int .i64 (0 : Int)), (Value.int .i64 (0 : Int)), (Value.int .i64 (0 : Int)), (Slc.v (⟨none, 0, 0⟩ : Slc))]⟩ 54) fun r23 w24 =>
      canW w24 (⟨r23, 0, none⟩ : Addr) 4 ∧ ∀ w25 : World, w25 = setCells w24 (⟨r23, 0, none⟩ : Addr) 0 [(Value.int .i64 n19), (Value.int .i64 n20), (Value.int .i64 n21), (Slc.v s22)] →
      ∃ n26 : Int, ∃ n27 : Int, ∃ n28 : Int, ∃ s29 : Slc, rowAt w25 (⟨r23, 0, none⟩ : Addr) 0 [(Value.int .i64 n26), (Value.int .i64 n27), (Value.int .i64 n28), (Slc.v s29)] ∧
      Calls Tryd.prog fn_tidewaterref33_RightTell ⟨[(Value.agg ⟨[(Value.int .i64 n26), (Value.int .i64 n27), (Value.int .i64 n28), (Slc.v s29)]⟩)]⟩ w25 fun e30 w31 =>
      ∃ b32 : Bool, e30 = .returned (Value.bool b32) ∧
      BIf (!b32) (
        BIf (decide (((s17.l : Nat) : Int) = (0 : Int))) (
          Calls Tryd.prog fn_tidewaternum_Num ⟨[e18]⟩ w31 fun e33 w34 =>
          ∃ n35 : Int, e33 = .returned (Value.int .i64 n35) ∧
          K (Value.bool (decide (n35 = (4 : Int)))) w34) (
          K (Value.bool false) w31)) (
        Calls Tryd.prog fn_wire_Read ⟨[(Slc.v s17)]⟩ w31 fun e36 w37 =>
        ∃ x38 : Int, ∃ x39 : Int, ∃ x40 : Int, ∃ x41 : Int, ∃ x42 : Slc, ∃ x43 : Int, ∃ x44 : Int, ∃ x45 : Int, ∃ x46 : Slc, ∃ b47 : Bool, ∃ e48 : Value, e36 = .returned (Value.tuple ⟨[(Value.agg ⟨[(Value.int .i64 x38), (Value.int .i64 x39), (Value.int .i64 x40), (Value.int .i64 x41), (Slc.v x42)]⟩), (Value.agg ⟨[(Value.int .i64 x43), (Value.int .i64 x44), (Value.int .i64 x45), (Slc.v x46)]⟩), (Value.bool b47), e48]⟩) ∧
        newS w37 (.cells ⟨[(Value.int .i64 (0 : Int)), (Value.int .i64 (0 : Int)), (Value.int .i64 (0 : Int)), (Value.int .i64 (0 : Int)), (Slc.v (⟨none, 0, 0⟩ : Slc))]⟩ 43) fun r49 w50 =>
        newS w50 (.cells ⟨[(Value.int .i64 (0 : Int)), (Value.int .i64 (0 : Int)), (Value.int .i64 (0 : Int)), (Slc.v (⟨none, 0, 0⟩ : Slc))]⟩ 48) fun r51 w52 =>
        canW w52 (⟨r49, 0, none⟩ : Addr) 5 ∧ ∀ w53 : World, w53 = setCells w52 (⟨r49, 0, none⟩ : Addr) 0 [(Value.int .i64 x38), (Value.int .i64 x39), (Value.int .i64 x40), (Value.int .i64 x41), (Slc.v x42)] →
        canW w53 (⟨r51, 0, none⟩ : Addr) 4 ∧ ∀ w54 : World, w54 = setCells w53 (⟨r51, 0, none⟩ : Addr) 0 [(Value.int .i64 x43), (Value.int .i64 x44), (Value.int .i64 x45), (Slc.v x46)] →
        isI e18 ∧
        BIf (isNilI e18) (
          ∃ t55 : List UInt8, bytesAt (World.drew w54) s17 t55 ∧
          ∃ n56 : Int, ∃ n57 : Int, ∃ n58 : Int, ∃ s59 : Slc, rowAt (World.drew w54) (⟨r23, 0, none⟩ : Addr) 0 [(Value.int .i64 n56), (Value.int .i64 n57), (Value.int .i64 n58), (Slc.v s59)] ∧
          Calls Tryd.prog fn_tidewaterref33_Tell ⟨[(Value.agg ⟨[(Value.int .i64 n56), (Value.int .i64 n57), (Value.int .i64 n58), (Slc.v s59)]⟩)]⟩ (World.drew w54) fun e60 w61 =>
          ∃ s62 : Slc, e60 = .returned (Slc.v s62) ∧
          (∃ t63 : List UInt8, bytesAt w61 s17 t63 ∧
          (strV t63) = (strV t55)) ∧
          ∃ t64 : List UInt8, bytesAt w61 s62 t64 ∧
          BIf (decide (t55 = t64)) (
            isI e48 ∧
            BIf (isNilI e48) (
              BIf (!b47) (
                ∃ n65 : Int, ∃ n66 : Int, ∃ n67 : Int, ∃ s68 : Slc, rowAt w61 (⟨r51, 0, none⟩ : Addr) 0 [(Value.int .i64 n65), (Value.int .i64 n66), (Value.int .i64 n67), (Slc.v s68)] ∧
                ∃ n69 : Int, ∃ n70 : Int, ∃ n71 : Int, ∃ s72 : Slc, rowAt w61 (⟨r23, 0, none⟩ : Addr) 0 [(Value.int .i64 n69), (Value.int .i64 n70), (Value.int .i64 n71), (Slc.v s72)] ∧
                Calls Tryd.prog fn_tidewaterlaw33_sameTell ⟨[(Value.agg ⟨[(Value.int .i64 n65), (Value.int .i64 n66), (Value.int .i64 n67), (Slc.v s68)]⟩), (Value.agg ⟨[(Value.int .i64 n69), (Value.int .i64 n70), (Value.int .i64 n71), (Slc.v s72)]⟩)]⟩ w61 fun e73 w74 =>
                ∃ b75 : Bool, e73 = .returned (Value.bool b75) ∧
                BIf b75 (
                  ∃ n76 : Int, ∃ n77 : Int, ∃ n78 : Int, ∃ n79 : Int, ∃ s80 : Slc, rowAt w74 (⟨r49, 0, none⟩ : Addr) 0 [(Value.int .i64 n76), (Value.int .i64 n77), (Value.int .i64 n78), (Value.int .i64 n79), (Slc.v s80)] ∧
                  Calls Tryd.prog fn_tidewaterlaw33_sameAsk ⟨[(Value.agg ⟨[(Value.int .i64 n76), (Value.int .i64 n77), (Value.int .i64 n78), (Value.int .i64 n79), (Slc.v s80)]⟩), (Value.agg ⟨[(Value.int .i64 (0 : Int)), (Value.int .i64 (0 : Int)), (Value.int .i64 (0 : Int)), (Value.int .i64 (0 : Int)), (Slc.v (⟨none, 0, 0⟩ : Slc))]⟩)]⟩ w74 fun e81 w82 =>
                  ∃ b83 : Bool, e81 = .returned (Value.bool b83) ∧
                  K (Value.bool b83) w82) (
                  K (Value.bool false) w74)) (
                K (Value.bool false) w61)) (
              K (Value.bool false) w61)) (
            K (Value.bool false) w61)) (
          K (Value.bool false) (World.drew w54)))))

theorem tidewaterlaw33_WireTells_eq (r1 : Int) (r2 : Int) (r3 : Int) (r4 : Slc) (w : World) (K : Value → World → Prop) : tidewaterlaw33_WireTells r1 r2 r3 r4 w K = denF Tryd.prog callB Tryd.f10 .none [(Value.agg ⟨[(Value.int .i64 r1), (Value.int .i64 r2), (Value.int .i64 r3), (Slc.v r4)]⟩)] w K := by kernel_rfl
theorem tidewaterlaw33_WireTells_ok (r1 : Int) (r2 : Int) (r3 : Int) (r4 : Slc) {w : World} {R : Ending → World → Prop} (h : tidewaterlaw33_WireTells r1 r2 r3 r4 w fun v w' => R (.returned v) w') : Calls Tryd.prog fn_tidewaterlaw33_WireTells ⟨[(Value.agg ⟨[(Value.int .i64 r1), (Value.int .i64 r2), (Value.int .i64 r3), (Slc.v r4)]⟩)]⟩ w R :=
  calls_of_den callB_ok mixed Tryd.func10 (tidewaterlaw33_WireTells_eq r1 r2 r3 r4 w _ ▸ h)

end Go.D
