/-
  WHAT IS PROVED: verification conditions of functions of this program, each with its soundness. No further conditions.
-/
import Derived.Test.YtkklojleebkngaaDoorBase
set_option linter.unusedSimpArgs false
set_option maxRecDepth 100000
set_option linter.unusedVariables false
namespace Go.D
open Go Go.Proofs
/-- (*tidewater/disk.Device).Stop -/
def disk_Device_Stop (d1 : Option Addr) (after2 : Int) (w : World) (K : Value → World → Prop) : Prop :=
  needSome d1 fun a3 =>
  canW w (a3.add 2) 1 ∧ ∀ w4 : World, w4 = World.setCell w (a3.add 2) (Value.bool true) →
  needSome d1 fun a5 =>
  canW w4 (a5.add 3) 1 ∧ ∀ w6 : World, w6 = World.setCell w4 (a5.add 3) (Value.int .i64 (if (0 : Int) > after2 then (0 : Int) else after2)) →
  K (Value.tuple #[]) w6

theorem disk_Device_Stop_eq (d1 : Option Addr) (after2 : Int) (w : World) (K : Value → World → Prop) : disk_Device_Stop d1 after2 w K = denF Tryd.prog callB Tryd.f45 .none [(Value.pointer d1), (Value.int .i64 after2)] w K := by kernel_rfl
theorem disk_Device_Stop_ok (d1 : Option Addr) (after2 : Int) {w : World} {R : Ending → World → Prop} (h : disk_Device_Stop d1 after2 w fun v w' => R (.returned v) w') : Calls Tryd.prog fn_disk_Device_Stop ⟨[(Value.pointer d1), (Value.int .i64 after2)]⟩ w R :=
  calls_of_den callB_ok mixed Tryd.func45 (disk_Device_Stop_eq d1 after2 w _ ▸ h)

/-- tidewater/tidewaterlaw08.broken -/
def tidewaterlaw08_broken (d1 : Option Addr) (s2 : Option Addr) (w3 : Option Addr) (l4 : Int) (l5 : Int) (l6 : Int) (l7 : Bool) (l8 : Bool) (l9 : Bool) (l10 : Int) (l11 : Int) (l12 : Int) (l13 : Int) (w : World) (K : Value → World → Prop) : Prop :=
  newS w (.cells ⟨[(Value.int .i64 l4), (Value.int .i64 l5), (Value.int .u8 l6), (Value.bool l7), (Value.bool l8), (Value.bool l9), (Value.int .i64 l10), (Value.int .u64 l11), (Value.int .i64 l12), (Value.int .i64 l13)]⟩ 54) fun r14 w15 =>
  Calls Tryd.prog fn_tidewaterref08_Store_Copy ⟨[(Value.pointer w3)]⟩ w15 fun e16 w17 =>
  ∃ p18 : Option Addr, e16 = .returned (Value.pointer p18) ∧
  Calls Tryd.prog fn_tidewaterref08_Store_Copy ⟨[(Value.pointer w3)]⟩ w17 fun e19 w20 =>
  ∃ p21 : Option Addr, e19 = .returned (Value.pointer p21) ∧
  ∃ n22 : Int, World.cell? w20 (⟨r14, 6, none⟩ : Addr) = some (Value.int .i64 n22) ∧
  Calls Tryd.prog fn_disk_Device_Stop ⟨[(Value.pointer d1), (Value.int .i64 n22)]⟩ w20 fun e23 w24 =>
  e23 = .returned (Value.tuple #[]) ∧
  ∃ J25 : (Value) → World → Prop,
  (
    ∃ b26 : Bool, World.cell? w24 (⟨r14, 3, none⟩ : Addr) = some (Value.bool b26) ∧
    BIf b26 (
      ∃ n27 : Int, World.cell? w24 (⟨r14, 1, none⟩ : Addr) = some (Value.int .i64 n27) ∧
      Calls Tryd.prog fn_segs_Store_Drop ⟨[(Value.pointer s2), (Value.int .i64 n27)]⟩ w24 fun e28 w29 =>
      ∃ e30 : Value, e28 = .returned e30 ∧
      ∃ n31 : Int, World.cell? w29 (⟨r14, 1, none⟩ : Addr) = some (Value.int .i64 n31) ∧
      Calls Tryd.prog fn_tidewaterref08_Store_Drop ⟨[(Value.pointer p18), (Value.int .i64 n31)]⟩ w29 fun e32 w33 =>
      ∃ n34 : Int, e32 = .returned (Value.int .i64 n34) ∧
      J25 (e30) w33) (
      ∃ n35 : Int, ∃ n36 : Int, ∃ n37 : Int, ∃ b38 : Bool, ∃ b39 : Bool, rowAt w24 (⟨r14, 0, none⟩ : Addr) 0 [(Value.int .i64 n35), (Value.int .i64 n36), (Value.int .u8 n37), (Value.bool b38), (Value.bool b39)] ∧
      Calls Tryd.prog fn_tidewaterlaw08_Act_record ⟨[(Value.agg ⟨[(Value.int .i64 n35), (Value.int .i64 n36), (Value.int .u8 n37), (Value.bool b38), (Value.bool b39)]⟩)]⟩ w24 fun e40 w41 =>
      ∃ s42 : Slc, e40 = .returned (Slc.v s42) ∧
      Calls Tryd.prog fn_segs_Store_Append ⟨[(Value.pointer s2), (Slc.v s42)]⟩ w41 fun e43 w44 =>
      ∃ n45 : Int, ∃ e46 : Value, e43 = .returned (Value.tuple ⟨[(Value.int .i64 n45), e46]⟩) ∧
      ∃ n47 : Int, ∃ n48 : Int, ∃ n49 : Int, ∃ b50 : Bool, ∃ b51 : Bool, rowAt w44 (⟨r14, 0, none⟩ : Addr) 0 [(Value.int .i64 n47), (Value.int .i64 n48), (Value.int .u8 n49), (Value.bool b50), (Value.bool b51)] ∧
      Calls Tryd.prog fn_tidewaterlaw08_Act_record ⟨[(Value.agg ⟨[(Value.int .i64 n47), (Value.int .i64 n48), (Value.int .u8 n49), (Value.bool b50), (Value.bool b51)]⟩)]⟩ w44 fun e52 w53 =>
      ∃ s54 : Slc, e52 = .returned (Slc.v s54) ∧
      Calls Tryd.prog fn_tidewaterref08_Store_Append ⟨[(Value.pointer p18), (Slc.v s54)]⟩ w53 fun e55 w56 =>
      ∃ n57 : Int, ∃ n58 : Int, e55 = .returned (Value.tuple ⟨[(Value.int .i64 n57), (Value.int .i64 n58)]⟩) ∧
      J25 (e46) w56)) ∧ (
  ∀ err59 : Value, ∀ w60 : World, J25 err59 w60 → ∀ u61 u62 u63 u64 u65 u66 u67 u68 u69 u70 u71 u72 u73 u74 u75 u76 u77 u78 u79 u80 u81 u82 u83 u84 u85 u86 : Value,
    ∃ n87 : Int, World.cell? w60 (⟨r14, 7, none⟩ : Addr) = some (Value.int .u64 n87) ∧
    ∃ n88 : Int, World.cell? w60 (⟨r14, 8, none⟩ : Addr) = some (Value.int .i64 n88) ∧
    ∃ n89 : Int, World.cell? w60 (⟨r14, 9, none⟩ : Addr) = some (Value.int .i64 n89) ∧
    Calls Tryd.prog fn_disk_Device_Crash ⟨[(Value.pointer d1), (Value.int .u64 n87), (Value.int .i64 n88), (Value.int .i64 n89)]⟩ w60 fun e90 w91 =>
    e90 = .returned (Value.tuple #[]) ∧
    Calls Tryd.prog fn_segs_Open ⟨[(Value.pointer d1)]⟩ w91 fun e92 w93 =>
    ∃ p94 : Option Addr, ∃ e95 : Value, e92 = .returned (Value.tuple ⟨[(Value.pointer p94), e95]⟩) ∧
    ∃ J96 : World → Prop,
    (
      isI e95 ∧
      BIf (!isNilI e95) (
        K (Value.tuple ⟨[(Value.pointer none), (Value.pointer none), (Value.bool false)]⟩) w93) (
        BIf (Option.isNone (p94 : Option Addr)) (
          K (Value.tuple ⟨[(Value.pointer none), (Value.pointer none), (Value.bool false)]⟩) w93) (
          J96 w93))) ∧ (
    ∀ w97 : World, J96 w97 → ∀ u98 u99 u100 u101 u102 u103 u104 u105 u106 : Value,
      ∃ J107 : World → Prop,
      (
        Calls Tryd.prog fn_tidewaterlaw08_same ⟨[(Value.pointer p94), (Value.pointer p18)]⟩ w97 fun e108 w109 =>
        ∃ b110 : Bool, e108 = .returned (Value.bool b110) ∧
        BIf b110 (
          isI err59 ∧
          BIf (isNilI err59) (
            K (Value.tuple ⟨[(Value.pointer p94), (Value.pointer p18), (Value.bool true)]⟩) w109) (
            Calls Tryd.prog fn_tidewaternum_Num ⟨[err59]⟩ w109 fun e111 w112 =>
            ∃ n113 : Int, e111 = .returned (Value.int .i64 n113) ∧
            BIf (decide (n113 = (12 : Int))) (
              K (Value.tuple ⟨[(Value.pointer p94), (Value.pointer p18), (Value.bool true)]⟩) w112) (
              J107 w112))) (
          J107 w109)) ∧ (
      ∀ w114 : World, J107 w114 → ∀ u115 u116 u117 u118 u119 u120 u121 u122 u123 u124 u125 u126 u127 u128 u129 u130 u131 : Value,
        ∃ J132 : World → Prop,
        (
          isI err59 ∧
          BIf (!isNilI err59) (
            Calls Tryd.prog fn_tidewaterlaw08_same ⟨[(Value.pointer p94), (Value.pointer w3)]⟩ w114 fun e133 w134 =>
            ∃ b135 : Bool, e133 = .returned (Value.bool b135) ∧
            BIf b135 (
              K (Value.tuple ⟨[(Value.pointer p94), (Value.pointer w3), (Value.bool true)]⟩) w134) (
              J132 w134)) (
            J132 w114)) ∧ (
        ∀ w136 : World, J132 w136 → ∀ u137 u138 u139 u140 u141 u142 u143 u144 u145 u146 u147 u148 : Value,
          ∃ J149 : (Bool) → World → Prop,
          (
            ∃ b150 : Bool, World.cell? w136 (⟨r14, 3, none⟩ : Addr) = some (Value.bool b150) ∧
            BIf (!b150) (
              ∃ n151 : Int, ∃ n152 : Int, ∃ n153 : Int, ∃ b154 : Bool, ∃ b155 : Bool, rowAt w136 (⟨r14, 0, none⟩ : Addr) 0 [(Value.int .i64 n151), (Value.int .i64 n152), (Value.int .u8 n153), (Value.bool b154), (Value.bool b155)] ∧
              Calls Tryd.prog fn_tidewaterlaw08_Act_record ⟨[(Value.agg ⟨[(Value.int .i64 n151), (Value.int .i64 n152), (Value.int .u8 n153), (Value.bool b154), (Value.bool b155)]⟩)]⟩ w136 fun e156 w157 =>
              ∃ s158 : Slc, e156 = .returned (Slc.v s158) ∧
              Calls Tryd.prog fn_tidewaterref08_Store_Fits ⟨[(Value.pointer w3), (Slc.v s158)]⟩ w157 fun e159 w160 =>
              ∃ b161 : Bool, e159 = .returned (Value.bool b161) ∧
              BIf (!b161) (
                Calls Tryd.prog fn_tidewaterref08_Store_Take ⟨[(Value.pointer p21)]⟩ w160 fun e162 w163 =>
                ∃ b164 : Bool, e162 = .returned (Value.bool b164) ∧
                J149 (b164) w163) (
                J149 (false) w160)) (
              J149 (false) w136)) ∧ (
          ∀ more165 : Bool, ∀ w166 : World, J149 more165 w166 → ∀ u167 u168 u169 u170 u171 u172 u173 u174 u175 u176 u177 u178 u179 u180 u181 u182 : Value,
            BIf more165 (
              Calls Tryd.prog fn_tidewaternum_Num ⟨[err59]⟩ w166 fun e183 w184 =>
              ∃ n185 : Int, e183 = .returned (Value.int .i64 n185) ∧
              BIf (decide (n185 = (12 : Int))) (
                Calls Tryd.prog fn_tidewaterlaw08_same ⟨[(Value.pointer p94), (Value.pointer p21)]⟩ w184 fun e186 w187 =>
                ∃ b188 : Bool, e186 = .returned (Value.bool b188) ∧
                K (Value.tuple ⟨[(Value.pointer p94), (Value.pointer p21), (Value.bool b188)]⟩) w187) (
                K (Value.tuple ⟨[(Value.pointer p94), (Value.pointer p21), (Value.bool false)]⟩) w184)) (
              K (Value.tuple ⟨[(Value.pointer p94), (Value.pointer p21), (Value.bool false)]⟩) w166))))))

theorem tidewaterlaw08_broken_eq (d1 : Option Addr) (s2 : Option Addr) (w3 : Option Addr) (l4 : Int) (l5 : Int) (l6 : Int) (l7 : Bool) (l8 : Bool) (l9 : Bool) (l10 : Int) (l11 : Int) (l12 : Int) (l13 : Int) (w : World) (K : Value → World → Prop) : tidewaterlaw08_broken d1 s2 w3 l4 l5 l6 l7 l8 l9 l10 l11 l12 l13 w K = denF Tryd.prog callB Tryd.f19 (.two .none (.two .none (.two .none (.two .none (.cut [(13, Sh.any)] [25, 26, 27, 28, 29, 30, 31, 32, 33, 34, 35, 36, 37, 38, 39, 40, 41, 42, 43, 44, 45, 46, 47, 48, 49, 50] .none (.two .none (.two .none (.cut [] [8, 9, 10, 64, 65, 66, 67, 68, 69] .none (.cut [] [8, 9, 10, 70, 71, 72, 73, 74, 75, 76, 77, 78, 79, 80, 81, 82, 83] .none (.cut [] [8, 9, 10, 84, 85, 86, 87, 88, 89, 90, 91, 92] .none (.cut [(16, Sh.bool)] [93, 94, 95, 96, 97, 98, 99, 100, 101, 102, 103, 104, 105, 106, 107, 108] .none .none))))))))))) [(Value.pointer d1), (Value.pointer s2), (Value.pointer w3), (Value.agg ⟨[(Value.int .i64 l4), (Value.int .i64 l5), (Value.int .u8 l6), (Value.bool l7), (Value.bool l8), (Value.bool l9), (Value.int .i64 l10), (Value.int .u64 l11), (Value.int .i64 l12), (Value.int .i64 l13)]⟩)] w K := by kernel_rfl
theorem tidewaterlaw08_broken_ok (d1 : Option Addr) (s2 : Option Addr) (w3 : Option Addr) (l4 : Int) (l5 : Int) (l6 : Int) (l7 : Bool) (l8 : Bool) (l9 : Bool) (l10 : Int) (l11 : Int) (l12 : Int) (l13 : Int) {w : World} {R : Ending → World → Prop} (h : tidewaterlaw08_broken d1 s2 w3 l4 l5 l6 l7 l8 l9 l10 l11 l12 l13 w fun v w' => R (.returned v) w') : Calls Tryd.prog fn_tidewaterlaw08_broken ⟨[(Value.pointer d1), (Value.pointer s2), (Value.pointer w3), (Value.agg ⟨[(Value.int .i64 l4), (Value.int .i64 l5), (Value.int .u8 l6), (Value.bool l7), (Value.bool l8), (Value.bool l9), (Value.int .i64 l10), (Value.int .u64 l11), (Value.int .i64 l12), (Value.int .i64 l13)]⟩)]⟩ w R :=
  calls_of_den callB_ok mixed Tryd.func19 (tidewaterlaw08_broken_eq d1 s2 w3 l4 l5 l6 l7 l8 l9 l10 l11 l12 l13 w _ ▸ h)

/-- tidewater/tidewaterlaw08.SegsPower -/
def tidewaterlaw08_SegsPower (n1 : Int) (list2 : Slc) (w : World) (K : Value → World → Prop) : Prop :=
  Calls Tryd.prog fn_tidewaterlaw08_alive ⟨[]⟩ w fun e3 w4 =>
  ∃ b5 : Bool, e3 = .returned (Value.bool b5) ∧
  BIf (!b5) (
    K (Value.bool false) w4) (
    BIf (decide ((40 : Int) < ((list2.l : Nat) : Int))) (
      K (Value.bool true) w4) (
      Calls Tryd.prog fn_tidewaterlaw08_begin ⟨[(Value.int .i64 n1)]⟩ w4 fun e6 w7 =>
      ∃ p8 : Option Addr, ∃ p9 : Option Addr, ∃ p10 : Option Addr, e6 = .returned (Value.tuple ⟨[(Value.pointer p8), (Value.pointer p9), (Value.pointer p10)]⟩) ∧
      ∃ J11 : World → Prop,
      (
        BIf (Option.isNone (p8 : Option Addr)) (
          K (Value.bool false) w7) (
          BIf (Option.isNone (p9 : Option Addr)) (
            K (Value.bool false) w7) (
            J11 w7))) ∧ (
      ∀ w12 : World, J11 w12 → ∀ u13 u14 u15 u16 u17 u18 u19 : Value,
        ∃ (I20 : (Option Addr) → (Option Addr) → (Int) → World → Prop) (mu21 : (Option Addr) → (Option Addr) → (Int) → World → Nat), I20 (p9) (p10) ((0 : Int)) w12 ∧ (
        ∀ s22 : Option Addr, ∀ w23 : Option Addr, ∀ i24 : Int, ∀ w25 : World, I20 s22 w23 i24 w25 → ∀ u26 u27 u28 u29 u30 u31 u32 u33 u34 u35 u36 u37 u38 u39 u40 u41 u42 u43 u44 u45 u46 u47 u48 u49 u50 u51 u52 u53 u54 u55 u56 u57 u58 u59 u60 u61 u62 u63 : Value,
          BIf (decide (i24 < ((list2.l : Nat) : Int))) (
            needSome list2.p fun a64 =>
            0 ≤ i24 ∧ i24 < ((list2.l : Nat) : Int) ∧
            ∃ n65 : Int, ∃ n66 : Int, ∃ n67 : Int, ∃ b68 : Bool, ∃ b69 : Bool, ∃ b70 : Bool, ∃ n71 : Int, ∃ n72 : Int, ∃ n73 : Int, ∃ n74 : Int, rowAt w25 (Addr.add a64 ((Int.toNat i24) * 10)) 0 [(Value.int .i64 n65), (Value.int .i64 n66), (Value.int .u8 n67), (Value.bool b68), (Value.bool b69), (Value.bool b70), (Value.int .i64 n71), (Value.int .u64 n72), (Value.int .i64 n73), (Value.int .i64 n74)] ∧
            newS w25 (.cells ⟨[(Value.int .i64 (0 : Int)), (Value.int .i64 (0 : Int)), (Value.int .u8 (0 : Int)), (Value.bool false), (Value.bool false), (Value.bool false), (Value.int .i64 (0 : Int)), (Value.int .u64 (0 : Int)), (Value.int .i64 (0 : Int)), (Value.int .i64 (0 : Int))]⟩ 54) fun r75 w76 =>
            canW w76 (⟨r75, 0, none⟩ : Addr) 10 ∧ ∀ w77 : World, w77 = setCells w76 (⟨r75, 0, none⟩ : Addr) 0 [(Value.int .i64 n65), (Value.int .i64 n66), (Value.int .u8 n67), (Value.bool b68), (Value.bool b69), (Value.bool b70), (Value.int .i64 n71), (Value.int .u64 n72), (Value.int .i64 n73), (Value.int .i64 n74)] →
            ∃ b78 : Bool, World.cell? w77 (⟨r75, 5, none⟩ : Addr) = some (Value.bool b78) ∧
            BIf (!b78) (
              ∃ n79 : Int, ∃ n80 : Int, ∃ n81 : Int, ∃ b82 : Bool, ∃ b83 : Bool, rowAt w77 (⟨r75, 0, none⟩ : Addr) 0 [(Value.int .i64 n79), (Value.int .i64 n80), (Value.int .u8 n81), (Value.bool b82), (Value.bool b83)] ∧
              Calls Tryd.prog fn_tidewaterlaw08_do ⟨[(Value.pointer p8), (Value.pointer s22), (Value.pointer w23), (Value.agg ⟨[(Value.int .i64 n79), (Value.int .i64 n80), (Value.int .u8 n81), (Value.bool b82), (Value.bool b83)]⟩)]⟩ w77 fun e84 w85 =>
              ∃ p86 : Option Addr, ∃ b87 : Bool, e84 = .returned (Value.tuple ⟨[(Value.pointer p86), (Value.bool b87)]⟩) ∧
              BIf (!b87) (
                K (Value.bool false) w85) (
                Calls Tryd.prog fn_tidewaterlaw08_same ⟨[(Value.pointer p86), (Value.pointer w23)]⟩ w85 fun e88 w89 =>
                ∃ b90 : Bool, e88 = .returned (Value.bool b90) ∧
                BIf (!b90) (
                  K (Value.bool false) w89) (
                  inR .i64 (i24 + (1 : Int)) ∧
                  (I20 (p86) (w23) ((i24 + (1 : Int))) w89 ∧ mu21 (p86) (w23) ((i24 + (1 : Int))) w89 < mu21 s22 w23 i24 w25)))) (
              ∃ n91 : Int, ∃ n92 : Int, ∃ n93 : Int, ∃ b94 : Bool, ∃ b95 : Bool, ∃ b96 : Bool, ∃ n97 : Int, ∃ n98 : Int, ∃ n99 : Int, ∃ n100 : Int, rowAt w77 (⟨r75, 0, none⟩ : Addr) 0 [(Value.int .i64 n91), (Value.int .i64 n92), (Value.int .u8 n93), (Value.bool b94), (Value.bool b95), (Value.bool b96), (Value.int .i64 n97), (Value.int .u64 n98), (Value.int .i64 n99), (Value.int .i64 n100)] ∧
              Calls Tryd.prog fn_tidewaterlaw08_broken ⟨[(Value.pointer p8), (Value.pointer s22), (Value.pointer w23), (Value.agg ⟨[(Value.int .i64 n91), (Value.int .i64 n92), (Value.int .u8 n93), (Value.bool b94), (Value.bool b95), (Value.bool b96), (Value.int .i64 n97), (Value.int .u64 n98), (Value.int .i64 n99), (Value.int .i64 n100)]⟩)]⟩ w77 fun e101 w102 =>
              ∃ p103 : Option Addr, ∃ p104 : Option Addr, ∃ b105 : Bool, e101 = .returned (Value.tuple ⟨[(Value.pointer p103), (Value.pointer p104), (Value.bool b105)]⟩) ∧
              BIf (!b105) (
                K (Value.bool false) w102) (
                inR .i64 (i24 + (1 : Int)) ∧
                (I20 (p103) (p104) ((i24 + (1 : Int))) w102 ∧ mu21 (p103) (p104) ((i24 + (1 : Int))) w102 < mu21 s22 w23 i24 w25)))) (
            K (Value.bool true) w25)))))

theorem tidewaterlaw08_SegsPower_eq (n1 : Int) (list2 : Slc) (w : World) (K : Value → World → Prop) : tidewaterlaw08_SegsPower n1 list2 w K = denF Tryd.prog callB Tryd.f5 (.two .none (.two .none (.two .none (.two .none (.cut [] [4, 22, 23, 24, 25, 26, 27] .none (.two (.two .none (.one (.loop [(6, Sh.ptr), (7, Sh.ptr), (30, (Sh.int .i64))] [4, 9, 10, 31, 32, 33, 34, 35, 36, 37, 38, 39, 40, 41, 42, 43, 44, 45, 46, 47, 48, 49, 50, 51, 52, 53, 54, 55, 56, 57, 58, 59, 60, 61, 62, 63, 64, 65] .none))) .none)))))) [(Value.int .i64 n1), (Slc.v list2)] w K := by kernel_rfl
theorem tidewaterlaw08_SegsPower_ok (n1 : Int) (list2 : Slc) {w : World} {R : Ending → World → Prop} (h : tidewaterlaw08_SegsPower n1 list2 w fun v w' => R (.returned v) w') : Calls Tryd.prog fn_tidewaterlaw08_SegsPower ⟨[(Value.int .i64 n1), (Slc.v list2)]⟩ w R :=
  calls_of_den callB_ok mixed Tryd.func5 (tidewaterlaw08_SegsPower_eq n1 list2 w _ ▸ h)

end Go.D
