/-
  WHAT IS PROVED: verification conditions of functions of this program, each with its soundness. No further conditions.
-/
import Derived.Test.YtjhhgmcigjgojaaDoorBase
set_option linter.unusedSimpArgs false
set_option maxRecDepth 100000
set_option linter.unusedVariables false
namespace Go.D
open Go Go.Proofs
/-- tidewater/tidewaterlaw24.alive -/
def tidewaterlaw24_alive  (w : World) (K : Value → World → Prop) : Prop :=
  0 ≤ (252 : Int) ∧ (252 : Int) ≤ (252 : Int) ∧ (252 : Int) ≤ 2 ^ 30 ∧
  newS w (.cells ⟨repl 252 [(Value.int .u8 (0 : Int))]⟩ 5) fun r1 w2 =>
  Calls Tryd.prog fn_check_Parts ⟨[(Value.int .i64 (1 : Int)), (Value.int .i64 (0 : Int)), (Slc.v (⟨(some (⟨r1, 0, none⟩ : Addr)), 252, 252⟩ : Slc))]⟩ w2 fun e3 w4 =>
  ∃ s5 : Slc, ∃ e6 : Value, e3 = .returned (Value.tuple ⟨[(Slc.v s5), e6]⟩) ∧
  0 ≤ (253 : Int) ∧ (253 : Int) ≤ (253 : Int) ∧ (253 : Int) ≤ 2 ^ 30 ∧
  newS w4 (.cells ⟨repl 253 [(Value.int .u8 (0 : Int))]⟩ 5) fun r7 w8 =>
  Calls Tryd.prog fn_check_Parts ⟨[(Value.int .i64 (1 : Int)), (Value.int .i64 (0 : Int)), (Slc.v (⟨(some (⟨r7, 0, none⟩ : Addr)), 253, 253⟩ : Slc))]⟩ w8 fun e9 w10 =>
  ∃ s11 : Slc, ∃ e12 : Value, e9 = .returned (Value.tuple ⟨[(Slc.v s11), e12]⟩) ∧
  isI e6 ∧
  BIf (isNilI e6) (
    isI e12 ∧
    BIf (isNilI e12) (
      BIf (decide (((s5.l : Nat) : Int) = (1 : Int))) (
        BIf (decide (((s11.l : Nat) : Int) = (2 : Int))) (
          needSome s11.p fun a13 =>
          0 ≤ (1 : Int) ∧ (1 : Int) < ((s11.l : Nat) : Int) ∧
          ∃ s14 : Slc, World.cell? w10 ((a13.add 12).add 11) = some (Slc.v s14) ∧
          K (Value.bool (decide (((s14.l : Nat) : Int) = (1 : Int)))) w10) (
          K (Value.bool false) w10)) (
        K (Value.bool false) w10)) (
      K (Value.bool false) w10)) (
    K (Value.bool false) w10)

theorem tidewaterlaw24_alive_eq  (w : World) (K : Value → World → Prop) : tidewaterlaw24_alive  w K = denF Tryd.prog callB Tryd.f4 .none [] w K := by kernel_rfl
theorem tidewaterlaw24_alive_ok  {w : World} {R : Ending → World → Prop} (h : tidewaterlaw24_alive  w fun v w' => R (.returned v) w') : Calls Tryd.prog fn_tidewaterlaw24_alive ⟨[]⟩ w R :=
  calls_of_den callB_ok mixed Tryd.func4 (tidewaterlaw24_alive_eq  w _ ▸ h)

/-- tidewater/tidewaterlaw24.CheckParts -/
def tidewaterlaw24_CheckParts (shard1 : Int) (upto2 : Int) (data3 : Slc) (w : World) (K : Value → World → Prop) : Prop :=
  Calls Tryd.prog fn_tidewaterlaw24_alive ⟨[]⟩ w fun e4 w5 =>
  ∃ b6 : Bool, e4 = .returned (Value.bool b6) ∧
  BIf (!b6) (
    K (Value.bool false) w5) (
    BIf (decide ((17000 : Int) < ((data3.l : Nat) : Int))) (
      K (Value.bool true) w5) (
      Calls Tryd.prog fn_tidewaternum_Bytes ⟨[(Slc.v data3)]⟩ w5 fun e7 w8 =>
      ∃ s9 : Slc, e7 = .returned (Slc.v s9) ∧
      Calls Tryd.prog fn_check_Parts ⟨[(Value.int .i64 shard1), (Value.int .i64 upto2), (Slc.v s9)]⟩ w8 fun e10 w11 =>
      ∃ s12 : Slc, ∃ e13 : Value, e10 = .returned (Value.tuple ⟨[(Slc.v s12), e13]⟩) ∧
      Calls Tryd.prog fn_tidewaterref24_Parts ⟨[(Value.int .i64 shard1), (Value.int .i64 upto2), (Slc.v data3)]⟩ w11 fun e14 w15 =>
      ∃ s16 : Slc, ∃ n17 : Int, e14 = .returned (Value.tuple ⟨[(Slc.v s16), (Value.int .i64 n17)]⟩) ∧
      ∃ J18 : World → Prop,
      (
        Calls Tryd.prog fn_tidewaternum_Num ⟨[e13]⟩ w15 fun e19 w20 =>
        ∃ n21 : Int, e19 = .returned (Value.int .i64 n21) ∧
        BIf (!decide (n21 = n17)) (
          K (Value.bool false) w20) (
          BIf (!decide (((s12.l : Nat) : Int) = ((s16.l : Nat) : Int))) (
            K (Value.bool false) w20) (
            Calls Tryd.prog fn_tidewaternum_Kept ⟨[(Slc.v s9), (Slc.v data3)]⟩ w20 fun e22 w23 =>
            ∃ b24 : Bool, e22 = .returned (Value.bool b24) ∧
            BIf (!b24) (
              K (Value.bool false) w23) (
              J18 w23)))) ∧ (
      ∀ w25 : World, J18 w25 → ∀ u26 u27 u28 u29 u30 u31 u32 u33 u34 u35 u36 u37 u38 u39 u40 u41 u42 u43 : Value,
        ∃ (I44 : (Int) → World → Prop) (mu45 : (Int) → World → Nat), I44 ((0 : Int)) w25 ∧ (
        ∀ i46 : Int, ∀ w47 : World, I44 i46 w47 → ∀ u48 u49 u50 u51 u52 u53 u54 u55 u56 u57 u58 u59 u60 u61 u62 : Value,
          BIf (decide (i46 < ((s12.l : Nat) : Int))) (
            needSome s12.p fun a63 =>
            0 ≤ i46 ∧ i46 < ((s12.l : Nat) : Int) ∧
            ∃ n64 : Int, ∃ n65 : Int, ∃ n66 : Int, ∃ n67 : Int, ∃ n68 : Int, ∃ n69 : Int, ∃ s70 : Slc, ∃ t71 : List UInt8, ∃ n72 : Int, ∃ n73 : Int, ∃ n74 : Int, ∃ s75 : Slc, rowAt (World.drew w47) (Addr.add a63 ((Int.toNat i46) * 12)) 0 [(Value.int .i64 n64), (Value.int .i64 n65), (Value.int .i64 n66), (Value.int .i64 n67), (Value.int .i64 n68), (Value.int .i64 n69), (Slc.v s70), (strV t71), (Value.int .i64 n72), (Value.int .i64 n73), (Value.int .i64 n74), (Slc.v s75)] ∧
            needSome s16.p fun a76 =>
            0 ≤ i46 ∧ i46 < ((s16.l : Nat) : Int) ∧
            ∃ n77 : Int, ∃ n78 : Int, ∃ n79 : Int, ∃ n80 : Int, ∃ n81 : Int, ∃ n82 : Int, ∃ s83 : Slc, ∃ t84 : List UInt8, ∃ n85 : Int, ∃ n86 : Int, ∃ n87 : Int, ∃ s88 : Slc, rowAt (World.drew w47) (Addr.add a76 ((Int.toNat i46) * 12)) 0 [(Value.int .i64 n77), (Value.int .i64 n78), (Value.int .i64 n79), (Value.int .i64 n80), (Value.int .i64 n81), (Value.int .i64 n82), (Slc.v s83), (strV t84), (Value.int .i64 n85), (Value.int .i64 n86), (Value.int .i64 n87), (Slc.v s88)] ∧
            Calls Tryd.prog fn_tidewaterref05_Same ⟨[(Value.agg ⟨[(Value.int .i64 n64), (Value.int .i64 n65), (Value.int .i64 n66), (Value.int .i64 n67), (Value.int .i64 n68), (Value.int .i64 n69), (Slc.v s70), (strV t71), (Value.int .i64 n72), (Value.int .i64 n73), (Value.int .i64 n74), (Slc.v s75)]⟩), (Value.agg ⟨[(Value.int .i64 n77), (Value.int .i64 n78), (Value.int .i64 n79), (Value.int .i64 n80), (Value.int .i64 n81), (Value.int .i64 n82), (Slc.v s83), (strV t84), (Value.int .i64 n85), (Value.int .i64 n86), (Value.int .i64 n87), (Slc.v s88)]⟩)]⟩ (World.drew w47) fun e89 w90 =>
            ∃ b91 : Bool, e89 = .returned (Value.bool b91) ∧
            BIf (!b91) (
              K (Value.bool false) w90) (
              inR .i64 (i46 + (1 : Int)) ∧
              (I44 ((i46 + (1 : Int))) w90 ∧ mu45 ((i46 + (1 : Int))) w90 < mu45 i46 w47))) (
            K (Value.bool true) w47)))))

theorem tidewaterlaw24_CheckParts_eq (shard1 : Int) (upto2 : Int) (data3 : Slc) (w : World) (K : Value → World → Prop) : tidewaterlaw24_CheckParts shard1 upto2 data3 w K = denF Tryd.prog callB Tryd.f3 (.two .none (.two .none (.two .none (.two .none (.two .none (.two .none (.cut [] [6, 34, 35, 36, 37, 38, 39, 40, 41, 42, 43, 44, 45, 46, 47, 48, 49, 50] .none (.two (.two .none (.one (.loop [(53, (Sh.int .i64))] [6, 12, 54, 55, 56, 57, 58, 59, 60, 61, 62, 63, 64, 65, 66] .none))) .none)))))))) [(Value.int .i64 shard1), (Value.int .i64 upto2), (Slc.v data3)] w K := by kernel_rfl
theorem tidewaterlaw24_CheckParts_ok (shard1 : Int) (upto2 : Int) (data3 : Slc) {w : World} {R : Ending → World → Prop} (h : tidewaterlaw24_CheckParts shard1 upto2 data3 w fun v w' => R (.returned v) w') : Calls Tryd.prog fn_tidewaterlaw24_CheckParts ⟨[(Value.int .i64 shard1), (Value.int .i64 upto2), (Slc.v data3)]⟩ w R :=
  calls_of_den callB_ok mixed Tryd.func3 (tidewaterlaw24_CheckParts_eq shard1 upto2 data3 w _ ▸ h)

end Go.D
