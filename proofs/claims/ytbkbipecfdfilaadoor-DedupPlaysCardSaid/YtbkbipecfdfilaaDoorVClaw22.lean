/-
  WHAT IS PROVED: verification conditions of functions of this program, each with its soundness. No further conditions.
-/
import Derived.Test.YtbkbipecfdfilaaDoorBase
set_option linter.unusedSimpArgs false
set_option maxRecDepth 100000
set_option linter.unusedVariables false
namespace Go.D
open Go Go.Proofs
/-- tidewater/tidewaterlaw22.alive -/
def tidewaterlaw22_alive  (w : World) (K : Value → World → Prop) : Prop :=
  Calls Tryd.prog fn_dedup_New ⟨[]⟩ w fun e1 w2 =>
  ∃ p3 : Option Addr, e1 = .returned (Value.pointer p3) ∧
  ∃ J4 : World → Prop,
  (
    BIf (Option.isNone (p3 : Option Addr)) (
      K (Value.bool false) w2) (
      Calls Tryd.prog fn_dedup_Seen_Note ⟨[(Value.pointer p3), (Value.int .i64 (1 : Int)), (Value.int .i64 (5 : Int)), (Value.agg ⟨[(Value.int .i64 (1 : Int)), (Value.int .i64 (0 : Int))]⟩)]⟩ w2 fun e5 w6 =>
      ∃ e7 : Value, e5 = .returned e7 ∧
      isI e7 ∧
      BIf (!isNilI e7) (
        K (Value.bool false) w6) (
        J4 w6))) ∧ (
  ∀ w8 : World, J4 w8 → ∀ u9 u10 u11 u12 u13 u14 u15 u16 u17 : Value,
    Calls Tryd.prog fn_dedup_Seen_Ask ⟨[(Value.pointer p3), (Value.int .i64 (1 : Int)), (Value.int .i64 (4 : Int))]⟩ w8 fun e18 w19 =>
    ∃ x20 : Int, ∃ x21 : Int, ∃ n22 : Int, e18 = .returned (Value.tuple ⟨[(Value.agg ⟨[(Value.int .i64 x20), (Value.int .i64 x21)]⟩), (Value.int .i64 n22)]⟩) ∧
    newS w19 (.cells ⟨[(Value.int .i64 (0 : Int)), (Value.int .i64 (0 : Int))]⟩ 28) fun r23 w24 =>
    canW w24 (⟨r23, 0, none⟩ : Addr) 2 ∧ ∀ w25 : World, w25 = setCells w24 (⟨r23, 0, none⟩ : Addr) 0 [(Value.int .i64 x20), (Value.int .i64 x21)] →
    Calls Tryd.prog fn_dedup_Seen_Ask ⟨[(Value.pointer p3), (Value.int .i64 (1 : Int)), (Value.int .i64 (5 : Int))]⟩ w25 fun e26 w27 =>
    ∃ x28 : Int, ∃ x29 : Int, ∃ n30 : Int, e26 = .returned (Value.tuple ⟨[(Value.agg ⟨[(Value.int .i64 x28), (Value.int .i64 x29)]⟩), (Value.int .i64 n30)]⟩) ∧
    newS w27 (.cells ⟨[(Value.int .i64 (0 : Int)), (Value.int .i64 (0 : Int))]⟩ 28) fun r31 w32 =>
    canW w32 (⟨r31, 0, none⟩ : Addr) 2 ∧ ∀ w33 : World, w33 = setCells w32 (⟨r31, 0, none⟩ : Addr) 0 [(Value.int .i64 x28), (Value.int .i64 x29)] →
    BIf (decide (n22 = (3 : Int))) (
      K (Value.bool (decide (n30 = (2 : Int)))) w33) (
      K (Value.bool false) w33))

theorem tidewaterlaw22_alive_eq  (w : World) (K : Value → World → Prop) : tidewaterlaw22_alive  w K = denF Tryd.prog callB Tryd.f5 (.two .none (.two .none (.cut [] [0, 7, 8, 9, 10, 11, 12, 13, 14] .none .none))) [] w K := by kernel_rfl
theorem tidewaterlaw22_alive_ok  {w : World} {R : Ending → World → Prop} (h : tidewaterlaw22_alive  w fun v w' => R (.returned v) w') : Calls Tryd.prog fn_tidewaterlaw22_alive ⟨[]⟩ w R :=
  calls_of_den callB_ok mixed Tryd.func5 (tidewaterlaw22_alive_eq  w _ ▸ h)

/-- tidewater/tidewaterlaw22.same -/
def tidewaterlaw22_same (s1 : Option Addr) (w2 : Option Addr) (w : World) (K : Value → World → Prop) : Prop :=
  ∃ (I3 : (Int) → World → Prop) (mu4 : (Int) → World → Nat), I3 ((0 : Int)) w ∧ (
  ∀ i5 : Int, ∀ w6 : World, I3 i5 w6 → ∀ u7 u8 u9 u10 u11 u12 u13 u14 u15 u16 u17 u18 u19 u20 u21 u22 u23 u24 u25 u26 u27 u28 u29 u30 u31 u32 u33 u34 u35 u36 u37 u38 u39 u40 u41 u42 u43 u44 u45 u46 u47 u48 u49 u50 u51 u52 u53 u54 u55 u56 : Value,
    BIf (decide (i5 < (6 : Int))) (
      Calls Tryd.prog fn_dedup_Seen_Last ⟨[(Value.pointer s1), (Value.int .i64 i5)]⟩ w6 fun e57 w58 =>
      ∃ n59 : Int, ∃ x60 : Int, ∃ x61 : Int, ∃ b62 : Bool, e57 = .returned (Value.tuple ⟨[(Value.int .i64 n59), (Value.agg ⟨[(Value.int .i64 x60), (Value.int .i64 x61)]⟩), (Value.bool b62)]⟩) ∧
      newS w58 (.cells ⟨[(Value.int .i64 (0 : Int)), (Value.int .i64 (0 : Int))]⟩ 28) fun r63 w64 =>
      canW w64 (⟨r63, 0, none⟩ : Addr) 2 ∧ ∀ w65 : World, w65 = setCells w64 (⟨r63, 0, none⟩ : Addr) 0 [(Value.int .i64 x60), (Value.int .i64 x61)] →
      newS w65 (.cells ⟨[(Value.int .i64 (0 : Int)), (Value.int .i64 (0 : Int))]⟩ 28) fun r66 w67 =>
      canW w67 (⟨r66, 0, none⟩ : Addr) 2 ∧ ∀ w68 : World, w68 = setCells w67 (⟨r66, 0, none⟩ : Addr) 0 [(Value.int .i64 (0 : Int)), (Value.int .i64 (0 : Int))] →
      ∃ J69 : (Int) → World → Prop,
      (
        ∃ J70 : (Bool) → World → Prop,
        (
          BIf (decide ((1 : Int) ≤ i5)) (
            J70 ((decide (i5 ≤ (4 : Int)))) w68) (
            J70 (false) w68)) ∧ (
        ∀ x71 : Bool, ∀ w72 : World, J70 x71 w72 → ∀ u73 u74 u75 u76 u77 : Value,
          BIf x71 (
            needSome w2 fun a78 =>
            0 ≤ i5 ∧ i5 < ((5 : Nat) : Int) ∧
            ∃ n79 : Int, World.cell? (World.drew w72) (Addr.add a78 ((Int.toNat i5) * 1)) = some (Value.int .i64 n79) ∧
            needSome w2 fun a80 =>
            0 ≤ i5 ∧ i5 < ((5 : Nat) : Int) ∧
            ∃ n81 : Int, ∃ n82 : Int, rowAt (World.drew w72) (Addr.add (a80.add 5) ((Int.toNat i5) * 2)) 0 [(Value.int .i64 n81), (Value.int .i64 n82)] ∧
            canW (World.drew w72) (⟨r66, 0, none⟩ : Addr) 2 ∧ ∀ w83 : World, w83 = setCells (World.drew w72) (⟨r66, 0, none⟩ : Addr) 0 [(Value.int .i64 n81), (Value.int .i64 n82)] →
            J69 (n79) w83) (
            J69 ((0 : Int)) w72))) ∧ (
      ∀ want84 : Int, ∀ w85 : World, J69 want84 w85 → ∀ u86 u87 u88 u89 u90 u91 u92 u93 u94 u95 u96 u97 u98 u99 u100 u101 u102 u103 : Value,
        BIf (!decide (n59 = want84)) (
          K (Value.bool false) w85) (
          ∃ n104 : Int, ∃ n105 : Int, rowAt w85 (⟨r63, 0, none⟩ : Addr) 0 [(Value.int .i64 n104), (Value.int .i64 n105)] ∧
          ∃ n106 : Int, ∃ n107 : Int, rowAt w85 (⟨r66, 0, none⟩ : Addr) 0 [(Value.int .i64 n106), (Value.int .i64 n107)] ∧
          BIf (!((decide (n104 = n106)) && ((decide (n105 = n107)) && true))) (
            K (Value.bool false) w85) (
            BIf (!(b62 == (decide ((0 : Int) < want84)))) (
              K (Value.bool false) w85) (
              inR .i64 (i5 + (1 : Int)) ∧
              (I3 ((i5 + (1 : Int))) w85 ∧ mu4 ((i5 + (1 : Int))) w85 < mu4 i5 w6)))))) (
      K (Value.bool true) w6))

theorem tidewaterlaw22_same_eq (s1 : Option Addr) (w2 : Option Addr) (w : World) (K : Value → World → Prop) : tidewaterlaw22_same s1 w2 w K = denF Tryd.prog callB Tryd.f17 (.two .none (.two (.two .none (.one (.loop [(11, (Sh.int .i64))] [4, 5, 6, 7, 8, 9, 10, 12, 13, 14, 15, 16, 17, 18, 19, 20, 21, 22, 23, 24, 25, 26, 27, 28, 29, 30, 31, 32, 33, 34, 35, 36, 37, 38, 39, 40, 41, 42, 43, 44, 45, 46, 47, 48, 49, 50, 51, 52, 53, 54] (.two .none (.two .none (.two (.one (.two .none (.two .none (.two .none (.cut [(9, (Sh.int .i64))] [22, 23, 24, 25, 26, 27, 28, 29, 30, 31, 32, 33, 34, 35, 36, 37, 38, 39] (.cut [(27, Sh.bool)] [22, 23, 24, 25, 26] .none .none) .none))))) .none)))))) .none)) [(Value.pointer s1), (Value.pointer w2)] w K := by kernel_rfl
theorem tidewaterlaw22_same_ok (s1 : Option Addr) (w2 : Option Addr) {w : World} {R : Ending → World → Prop} (h : tidewaterlaw22_same s1 w2 w fun v w' => R (.returned v) w') : Calls Tryd.prog fn_tidewaterlaw22_same ⟨[(Value.pointer s1), (Value.pointer w2)]⟩ w R :=
  calls_of_den callB_ok mixed Tryd.func17 (tidewaterlaw22_same_eq s1 w2 w _ ▸ h)

/-- tidewater/tidewaterlaw22.DedupRises -/
def tidewaterlaw22_DedupRises (list1 : Slc) (w : World) (K : Value → World → Prop) : Prop :=
  Calls Tryd.prog fn_tidewaterlaw22_alive ⟨[]⟩ w fun e2 w3 =>
  ∃ b4 : Bool, e2 = .returned (Value.bool b4) ∧
  BIf (!b4) (
    K (Value.bool false) w3) (
    BIf (decide ((60 : Int) < ((list1.l : Nat) : Int))) (
      K (Value.bool true) w3) (
      Calls Tryd.prog fn_dedup_New ⟨[]⟩ w3 fun e5 w6 =>
      ∃ p7 : Option Addr, e5 = .returned (Value.pointer p7) ∧
      Calls Tryd.prog fn_dedup_New ⟨[]⟩ w6 fun e8 w9 =>
      ∃ p10 : Option Addr, e8 = .returned (Value.pointer p10) ∧
      newS w9 (.cells ⟨[(Value.pointer none), (Value.pointer none)]⟩ 26) fun r11 w12 =>
      canW w12 (⟨r11, 0, none⟩ : Addr) 2 ∧ ∀ w13 : World, w13 = setCells w12 (⟨r11, 0, none⟩ : Addr) 0 [(Value.pointer p7), (Value.pointer p10)] →
      ∃ (I14 : (Int) → World → Prop) (mu15 : (Int) → World → Nat), I14 ((0 : Int)) w13 ∧ (
      ∀ i16 : Int, ∀ w17 : World, I14 i16 w17 → ∀ u18 u19 u20 u21 u22 u23 u24 u25 u26 u27 u28 u29 u30 u31 u32 u33 u34 u35 u36 u37 u38 u39 u40 u41 u42 u43 u44 u45 u46 u47 u48 u49 u50 u51 u52 u53 u54 u55 u56 u57 u58 u59 u60 u61 u62 u63 u64 u65 u66 u67 u68 u69 u70 u71 u72 u73 u74 u75 u76 u77 u78 u79 u80 u81 u82 u83 u84 u85 u86 u87 : Value,
        BIf (decide (i16 < ((list1.l : Nat) : Int))) (
          needSome list1.p fun a88 =>
          0 ≤ i16 ∧ i16 < ((list1.l : Nat) : Int) ∧
          ∃ b89 : Bool, ∃ n90 : Int, ∃ n91 : Int, ∃ n92 : Int, ∃ n93 : Int, ∃ b94 : Bool, rowAt w17 (Addr.add a88 ((Int.toNat i16) * 6)) 0 [(Value.bool b89), (Value.int .i64 n90), (Value.int .i64 n91), (Value.int .i64 n92), (Value.int .i64 n93), (Value.bool b94)] ∧
          newS w17 (.cells ⟨[(Value.bool false), (Value.int .i64 (0 : Int)), (Value.int .i64 (0 : Int)), (Value.int .i64 (0 : Int)), (Value.int .i64 (0 : Int)), (Value.bool false)]⟩ 30) fun r95 w96 =>
          canW w96 (⟨r95, 0, none⟩ : Addr) 6 ∧ ∀ w97 : World, w97 = setCells w96 (⟨r95, 0, none⟩ : Addr) 0 [(Value.bool b89), (Value.int .i64 n90), (Value.int .i64 n91), (Value.int .i64 n92), (Value.int .i64 n93), (Value.bool b94)] →
          ∃ J98 : (Int) → World → Prop,
          (
            ∃ b99 : Bool, World.cell? w97 (⟨r95, 0, none⟩ : Addr) = some (Value.bool b99) ∧
            BIf b99 (
              J98 ((1 : Int)) w97) (
              J98 ((0 : Int)) w97)) ∧ (
          ∀ i100 : Int, ∀ w101 : World, J98 i100 w101 → ∀ u102 u103 : Value,
            newS w101 (.cells ⟨[(Value.int .i64 (0 : Int)), (Value.int .i64 (0 : Int)), (Value.int .i64 (0 : Int)), (Value.int .i64 (0 : Int)), (Value.int .i64 (0 : Int))]⟩ 31) fun r104 w105 =>
            canW w105 (⟨r104, 0, none⟩ : Addr) 5 ∧ ∀ w106 : World, w106 = setCells w105 (⟨r104, 0, none⟩ : Addr) 0 [(Value.int .i64 (0 : Int)), (Value.int .i64 (0 : Int)), (Value.int .i64 (0 : Int)), (Value.int .i64 (0 : Int)), (Value.int .i64 (0 : Int))] →
            ∃ (I107 : (Int) → World → Prop) (mu108 : (Int) → World → Nat), I107 ((0 : Int)) w106 ∧ (
            ∀ i109 : Int, ∀ w110 : World, I107 i109 w110 → ∀ u111 u112 u113 u114 u115 u116 u117 u118 u119 u120 u121 u122 u123 u124 u125 : Value,
              BIf (decide (i109 < (5 : Int))) (
                0 ≤ i100 ∧ i100 < ((2 : Nat) : Int) ∧
                ∃ p126 : Option Addr, World.cell? w110 (Addr.add (⟨r11, 0, none⟩ : Addr) ((Int.toNat i100) * 1)) = some (Value.pointer p126) ∧
                Calls Tryd.prog fn_dedup_Seen_Last ⟨[(Value.pointer p126), (Value.int .i64 i109)]⟩ w110 fun e127 w128 =>
                ∃ n129 : Int, ∃ x130 : Int, ∃ x131 : Int, ∃ b132 : Bool, e127 = .returned (Value.tuple ⟨[(Value.int .i64 n129), (Value.agg ⟨[(Value.int .i64 x130), (Value.int .i64 x131)]⟩), (Value.bool b132)]⟩) ∧
                0 ≤ i109 ∧ i109 < ((5 : Nat) : Int) ∧
                canW w128 (Addr.add (⟨r104, 0, none⟩ : Addr) ((Int.toNat i109) * 1)) 1 ∧ ∀ w133 : World, w133 = World.setCell w128 (Addr.add (⟨r104, 0, none⟩ : Addr) ((Int.toNat i109) * 1)) (Value.int .i64 n129) →
                inR .i64 (i109 + (1 : Int)) ∧
                (I107 ((i109 + (1 : Int))) w133 ∧ mu108 ((i109 + (1 : Int))) w133 < mu108 i109 w110)) (
                ∃ J134 : World → Prop,
                (
                  ∃ b135 : Bool, World.cell? w110 (⟨r95, 5, none⟩ : Addr) = some (Value.bool b135) ∧
                  BIf b135 (
                    0 ≤ i100 ∧ i100 < ((2 : Nat) : Int) ∧
                    ∃ p136 : Option Addr, World.cell? (World.drew w110) (Addr.add (⟨r11, 0, none⟩ : Addr) ((Int.toNat i100) * 1)) = some (Value.pointer p136) ∧
                    inR .i64 ((1 : Int) - i100) ∧
                    0 ≤ ((1 : Int) - i100) ∧ ((1 : Int) - i100) < ((2 : Nat) : Int) ∧
                    ∃ p137 : Option Addr, World.cell? (World.drew w110) (Addr.add (⟨r11, 0, none⟩ : Addr) ((Int.toNat ((1 : Int) - i100)) * 1)) = some (Value.pointer p137) ∧
                    Calls Tryd.prog fn_dedup_Seen_Copy ⟨[(Value.pointer p137)]⟩ (World.drew w110) fun e138 w139 =>
                    ∃ p140 : Option Addr, e138 = .returned (Value.pointer p140) ∧
                    (∃ p141 : Option Addr, World.cell? w139 (Addr.add (⟨r11, 0, none⟩ : Addr) ((Int.toNat i100) * 1)) = some (Value.pointer p141) ∧
                    (Value.pointer p141) = (Value.pointer p136)) ∧
                    Calls Tryd.prog fn_dedup_Seen_Join ⟨[(Value.pointer p136), (Value.pointer p140)]⟩ w139 fun e142 w143 =>
                    e142 = .returned (Value.tuple #[]) ∧
                    J134 w143) (
                    0 ≤ i100 ∧ i100 < ((2 : Nat) : Int) ∧
                    ∃ p144 : Option Addr, World.cell? (World.drew w110) (Addr.add (⟨r11, 0, none⟩ : Addr) ((Int.toNat i100) * 1)) = some (Value.pointer p144) ∧
                    ∃ n145 : Int, World.cell? (World.drew w110) (⟨r95, 1, none⟩ : Addr) = some (Value.int .i64 n145) ∧
                    ∃ n146 : Int, World.cell? (World.drew w110) (⟨r95, 2, none⟩ : Addr) = some (Value.int .i64 n146) ∧
                    ∃ n147 : Int, ∃ n148 : Int, rowAt (World.drew w110) (⟨r95, 3, none⟩ : Addr) 0 [(Value.int .i64 n147), (Value.int .i64 n148)] ∧
                    Calls Tryd.prog fn_dedup_Seen_Note ⟨[(Value.pointer p144), (Value.int .i64 n145), (Value.int .i64 n146), (Value.agg ⟨[(Value.int .i64 n147), (Value.int .i64 n148)]⟩)]⟩ (World.drew w110) fun e149 w150 =>
                    ∃ e151 : Value, e149 = .returned e151 ∧
                    J134 w150)) ∧ (
                ∀ w152 : World, J134 w152 → ∀ u153 u154 u155 u156 u157 u158 u159 u160 u161 u162 u163 u164 u165 u166 u167 u168 u169 u170 u171 u172 u173 : Value,
                  ∃ (I174 : (Int) → World → Prop) (mu175 : (Int) → World → Nat), I174 ((0 : Int)) w152 ∧ (
                  ∀ i176 : Int, ∀ w177 : World, I174 i176 w177 → ∀ u178 u179 u180 u181 u182 u183 u184 u185 u186 u187 u188 u189 u190 u191 u192 u193 u194 u195 u196 u197 u198 u199 : Value,
                    BIf (decide (i176 < (5 : Int))) (
                      0 ≤ i100 ∧ i100 < ((2 : Nat) : Int) ∧
                      ∃ p200 : Option Addr, World.cell? w177 (Addr.add (⟨r11, 0, none⟩ : Addr) ((Int.toNat i100) * 1)) = some (Value.pointer p200) ∧
                      Calls Tryd.prog fn_dedup_Seen_Last ⟨[(Value.pointer p200), (Value.int .i64 i176)]⟩ w177 fun e201 w202 =>
                      ∃ n203 : Int, ∃ x204 : Int, ∃ x205 : Int, ∃ b206 : Bool, e201 = .returned (Value.tuple ⟨[(Value.int .i64 n203), (Value.agg ⟨[(Value.int .i64 x204), (Value.int .i64 x205)]⟩), (Value.bool b206)]⟩) ∧
                      newS w202 (.cells ⟨[(Value.int .i64 (0 : Int)), (Value.int .i64 (0 : Int))]⟩ 28) fun r207 w208 =>
                      canW w208 (⟨r207, 0, none⟩ : Addr) 2 ∧ ∀ w209 : World, w209 = setCells w208 (⟨r207, 0, none⟩ : Addr) 0 [(Value.int .i64 x204), (Value.int .i64 x205)] →
                      0 ≤ i176 ∧ i176 < ((5 : Nat) : Int) ∧
                      ∃ n210 : Int, World.cell? w209 (Addr.add (⟨r104, 0, none⟩ : Addr) ((Int.toNat i176) * 1)) = some (Value.int .i64 n210) ∧
                      BIf (decide (n203 < n210)) (
                        K (Value.bool false) w209) (
                        inR .i64 (i176 + (1 : Int)) ∧
                        (I174 ((i176 + (1 : Int))) w209 ∧ mu175 ((i176 + (1 : Int))) w209 < mu175 i176 w177))) (
                      inR .i64 (i16 + (1 : Int)) ∧
                      (I14 ((i16 + (1 : Int))) w177 ∧ mu15 ((i16 + (1 : Int))) w177 < mu15 i16 w17)))))))) (
          0 ≤ (0 : Int) ∧ (0 : Int) < ((2 : Nat) : Int) ∧
          ∃ p211 : Option Addr, World.cell? (World.drew w17) (⟨r11, 0, none⟩ : Addr) = some (Value.pointer p211) ∧
          0 ≤ (1 : Int) ∧ (1 : Int) < ((2 : Nat) : Int) ∧
          ∃ p212 : Option Addr, World.cell? (World.drew w17) (⟨r11, 1, none⟩ : Addr) = some (Value.pointer p212) ∧
          Calls Tryd.prog fn_dedup_Seen_Copy ⟨[(Value.pointer p211)]⟩ (World.drew w17) fun e213 w214 =>
          ∃ p215 : Option Addr, e213 = .returned (Value.pointer p215) ∧
          (∃ p216 : Option Addr, World.cell? w214 (⟨r11, 1, none⟩ : Addr) = some (Value.pointer p216) ∧
          (Value.pointer p216) = (Value.pointer p212)) ∧
          Calls Tryd.prog fn_dedup_Seen_Copy ⟨[(Value.pointer p212)]⟩ w214 fun e217 w218 =>
          ∃ p219 : Option Addr, e217 = .returned (Value.pointer p219) ∧
          0 ≤ (1 : Int) ∧ (1 : Int) < ((2 : Nat) : Int) ∧
          ∃ p220 : Option Addr, World.cell? w218 (⟨r11, 1, none⟩ : Addr) = some (Value.pointer p220) ∧
          Calls Tryd.prog fn_dedup_Seen_Join ⟨[(Value.pointer p215), (Value.pointer p220)]⟩ w218 fun e221 w222 =>
          e221 = .returned (Value.tuple #[]) ∧
          0 ≤ (0 : Int) ∧ (0 : Int) < ((2 : Nat) : Int) ∧
          ∃ p223 : Option Addr, World.cell? w222 (⟨r11, 0, none⟩ : Addr) = some (Value.pointer p223) ∧
          Calls Tryd.prog fn_dedup_Seen_Join ⟨[(Value.pointer p219), (Value.pointer p223)]⟩ w222 fun e224 w225 =>
          e224 = .returned (Value.tuple #[]) ∧
          ∃ (I226 : (Int) → World → Prop) (mu227 : (Int) → World → Nat), I226 ((1 : Int)) w225 ∧ (
          ∀ c228 : Int, ∀ w229 : World, I226 c228 w229 → ∀ u230 u231 u232 u233 u234 u235 u236 u237 u238 u239 u240 u241 u242 u243 u244 u245 u246 u247 u248 u249 u250 u251 u252 u253 u254 u255 u256 u257 : Value,
            BIf (decide (c228 ≤ (4 : Int))) (
              Calls Tryd.prog fn_dedup_Seen_Last ⟨[(Value.pointer p215), (Value.int .i64 c228)]⟩ w229 fun e258 w259 =>
              ∃ n260 : Int, ∃ x261 : Int, ∃ x262 : Int, ∃ b263 : Bool, e258 = .returned (Value.tuple ⟨[(Value.int .i64 n260), (Value.agg ⟨[(Value.int .i64 x261), (Value.int .i64 x262)]⟩), (Value.bool b263)]⟩) ∧
              newS w259 (.cells ⟨[(Value.int .i64 (0 : Int)), (Value.int .i64 (0 : Int))]⟩ 28) fun r264 w265 =>
              canW w265 (⟨r264, 0, none⟩ : Addr) 2 ∧ ∀ w266 : World, w266 = setCells w265 (⟨r264, 0, none⟩ : Addr) 0 [(Value.int .i64 x261), (Value.int .i64 x262)] →
              Calls Tryd.prog fn_dedup_Seen_Last ⟨[(Value.pointer p219), (Value.int .i64 c228)]⟩ w266 fun e267 w268 =>
              ∃ n269 : Int, ∃ x270 : Int, ∃ x271 : Int, ∃ b272 : Bool, e267 = .returned (Value.tuple ⟨[(Value.int .i64 n269), (Value.agg ⟨[(Value.int .i64 x270), (Value.int .i64 x271)]⟩), (Value.bool b272)]⟩) ∧
              newS w268 (.cells ⟨[(Value.int .i64 (0 : Int)), (Value.int .i64 (0 : Int))]⟩ 28) fun r273 w274 =>
              canW w274 (⟨r273, 0, none⟩ : Addr) 2 ∧ ∀ w275 : World, w275 = setCells w274 (⟨r273, 0, none⟩ : Addr) 0 [(Value.int .i64 x270), (Value.int .i64 x271)] →
              BIf (!decide (n260 = n269)) (
                K (Value.bool false) w275) (
                inR .i64 (c228 + (1 : Int)) ∧
                (I226 ((c228 + (1 : Int))) w275 ∧ mu227 ((c228 + (1 : Int))) w275 < mu227 c228 w229))) (
              K (Value.bool true) w229))))))

theorem tidewaterlaw22_DedupRises_eq (list1 : Slc) (w : World) (K : Value → World → Prop) : tidewaterlaw22_DedupRises list1 w K = denF Tryd.prog callB Tryd.f3 (.two .none (.two .none (.two .none (.two .none (.two (.two .none (.one (.loop [(32, (Sh.int .i64))] [2, 5, 6, 7, 8, 9, 10, 11, 12, 33, 34, 35, 36, 37, 38, 39, 40, 41, 42, 43, 44, 45, 46, 47, 48, 49, 50, 51, 52, 53, 54, 55, 56, 57, 58, 59, 60, 61, 62, 63, 64, 65, 66, 67, 68, 69, 70, 71, 72, 73, 74, 75, 76, 77, 78, 79, 80, 81, 82, 83, 84, 85, 86, 87, 88, 89, 90, 91, 92, 93] (.two .none (.two .none (.two (.one (.two .none (.two .none (.cut [(6, (Sh.int .i64))] [36, 37] .none (.two .none (.two (.two .none (.one (.loop [(39, (Sh.int .i64))] [8, 40, 41, 42, 43, 44, 45, 46, 47, 48, 49, 50, 51, 52, 53] .none))) (.cut [] [54, 55, 56, 57, 58, 59, 60, 61, 62, 63, 64, 65, 66, 67, 68, 69, 70, 71, 72, 73, 74] .none (.two .none (.one (.loop [(75, (Sh.int .i64))] [2, 9, 10, 11, 12, 76, 77, 78, 79, 80, 81, 82, 83, 84, 85, 86, 87, 88, 89, 90, 91, 92] .none)))))))))) .none)))))) (.two .none (.two .none (.two .none (.two (.two .none (.one (.loop [(15, (Sh.int .i64))] [2, 16, 17, 18, 19, 20, 21, 108, 109, 110, 111, 112, 113, 114, 115, 116, 117, 118, 119, 120, 121, 122, 123, 124, 125, 126, 127, 128] .none))) .none))))))))) [(Slc.v list1)] w K := by kernel_rfl
theorem tidewaterlaw22_DedupRises_ok (list1 : Slc) {w : World} {R : Ending → World → Prop} (h : tidewaterlaw22_DedupRises list1 w fun v w' => R (.returned v) w') : Calls Tryd.prog fn_tidewaterlaw22_DedupRises ⟨[(Slc.v list1)]⟩ w R :=
  calls_of_den callB_ok mixed Tryd.func3 (tidewaterlaw22_DedupRises_eq list1 w _ ▸ h)

/-- tidewater/tidewaterlaw22.DedupPlays -/
def tidewaterlaw22_DedupPlays (list1 : Slc) (client2 : Int) (seq3 : Int) (w : World) (K : Value → World → Prop) : Prop :=
  Calls Tryd.prog fn_tidewaterlaw22_alive ⟨[]⟩ w fun e4 w5 =>
  ∃ b6 : Bool, e4 = .returned (Value.bool b6) ∧
  BIf (!b6) (
    K (Value.bool false) w5) (
    BIf (decide ((60 : Int) < ((list1.l : Nat) : Int))) (
      K (Value.bool true) w5) (
      Calls Tryd.prog fn_dedup_New ⟨[]⟩ w5 fun e7 w8 =>
      ∃ p9 : Option Addr, e7 = .returned (Value.pointer p9) ∧
      Calls Tryd.prog fn_dedup_New ⟨[]⟩ w8 fun e10 w11 =>
      ∃ p12 : Option Addr, e10 = .returned (Value.pointer p12) ∧
      newS w11 (.cells ⟨[(Value.pointer none), (Value.pointer none)]⟩ 26) fun r13 w14 =>
      canW w14 (⟨r13, 0, none⟩ : Addr) 2 ∧ ∀ w15 : World, w15 = setCells w14 (⟨r13, 0, none⟩ : Addr) 0 [(Value.pointer p9), (Value.pointer p12)] →
      newS w15 (.cells ⟨[(Value.int .i64 (0 : Int)), (Value.int .i64 (0 : Int)), (Value.int .i64 (0 : Int)), (Value.int .i64 (0 : Int)), (Value.int .i64 (0 : Int)), (Value.int .i64 (0 : Int)), (Value.int .i64 (0 : Int)), (Value.int .i64 (0 : Int)), (Value.int .i64 (0 : Int)), (Value.int .i64 (0 : Int)), (Value.int .i64 (0 : Int)), (Value.int .i64 (0 : Int)), (Value.int .i64 (0 : Int)), (Value.int .i64 (0 : Int)), (Value.int .i64 (0 : Int))]⟩ 42) fun r16 w17 =>
      newS w17 (.cells ⟨[(Value.int .i64 (0 : Int)), (Value.int .i64 (0 : Int)), (Value.int .i64 (0 : Int)), (Value.int .i64 (0 : Int)), (Value.int .i64 (0 : Int)), (Value.int .i64 (0 : Int)), (Value.int .i64 (0 : Int)), (Value.int .i64 (0 : Int)), (Value.int .i64 (0 : Int)), (Value.int .i64 (0 : Int)), (Value.int .i64 (0 : Int)), (Value.int .i64 (0 : Int)), (Value.int .i64 (0 : Int)), (Value.int .i64 (0 : Int)), (Value.int .i64 (0 : Int))]⟩ 42) fun r18 w19 =>
      newS w19 (.cells ⟨[(Value.pointer none), (Value.pointer none)]⟩ 43) fun r20 w21 =>
      canW w21 (⟨r20, 0, none⟩ : Addr) 2 ∧ ∀ w22 : World, w22 = setCells w21 (⟨r20, 0, none⟩ : Addr) 0 [(Value.pointer (some (⟨r16, 0, none⟩ : Addr))), (Value.pointer (some (⟨r18, 0, none⟩ : Addr)))] →
      ∃ (I23 : (Int) → World → Prop) (mu24 : (Int) → World → Nat), I23 ((0 : Int)) w22 ∧ (
      ∀ i25 : Int, ∀ w26 : World, I23 i25 w26 → ∀ u27 u28 u29 u30 u31 u32 u33 u34 u35 u36 u37 u38 u39 u40 u41 u42 u43 u44 u45 u46 u47 u48 u49 u50 u51 u52 u53 u54 u55 u56 u57 u58 u59 u60 u61 u62 u63 u64 u65 u66 u67 u68 u69 u70 u71 u72 u73 u74 u75 u76 u77 u78 u79 u80 u81 u82 u83 u84 u85 u86 u87 u88 u89 u90 u91 u92 u93 u94 u95 u96 u97 u98 u99 u100 u101 u102 u103 u104 u105 u106 u107 u108 u109 u110 u111 u112 u113 u114 u115 u116 u117 u118 u119 u120 u121 u122 u123 : Value,
        BIf (decide (i25 < ((list1.l : Nat) : Int))) (
          needSome list1.p fun a124 =>
          0 ≤ i25 ∧ i25 < ((list1.l : Nat) : Int) ∧
          ∃ b125 : Bool, ∃ n126 : Int, ∃ n127 : Int, ∃ n128 : Int, ∃ n129 : Int, ∃ b130 : Bool, rowAt w26 (Addr.add a124 ((Int.toNat i25) * 6)) 0 [(Value.bool b125), (Value.int .i64 n126), (Value.int .i64 n127), (Value.int .i64 n128), (Value.int .i64 n129), (Value.bool b130)] ∧
          newS w26 (.cells ⟨[(Value.bool false), (Value.int .i64 (0 : Int)), (Value.int .i64 (0 : Int)), (Value.int .i64 (0 : Int)), (Value.int .i64 (0 : Int)), (Value.bool false)]⟩ 30) fun r131 w132 =>
          canW w132 (⟨r131, 0, none⟩ : Addr) 6 ∧ ∀ w133 : World, w133 = setCells w132 (⟨r131, 0, none⟩ : Addr) 0 [(Value.bool b125), (Value.int .i64 n126), (Value.int .i64 n127), (Value.int .i64 n128), (Value.int .i64 n129), (Value.bool b130)] →
          ∃ J134 : (Int) → World → Prop,
          (
            ∃ b135 : Bool, World.cell? w133 (⟨r131, 0, none⟩ : Addr) = some (Value.bool b135) ∧
            BIf b135 (
              J134 ((1 : Int)) w133) (
              J134 ((0 : Int)) w133)) ∧ (
          ∀ i136 : Int, ∀ w137 : World, J134 i136 w137 → ∀ u138 u139 : Value,
            ∃ J140 : World → Prop,
            (
              ∃ b141 : Bool, World.cell? w137 (⟨r131, 5, none⟩ : Addr) = some (Value.bool b141) ∧
              BIf b141 (
                0 ≤ i136 ∧ i136 < ((2 : Nat) : Int) ∧
                ∃ p142 : Option Addr, World.cell? (World.drew w137) (Addr.add (⟨r13, 0, none⟩ : Addr) ((Int.toNat i136) * 1)) = some (Value.pointer p142) ∧
                inR .i64 ((1 : Int) - i136) ∧
                0 ≤ ((1 : Int) - i136) ∧ ((1 : Int) - i136) < ((2 : Nat) : Int) ∧
                ∃ p143 : Option Addr, World.cell? (World.drew w137) (Addr.add (⟨r13, 0, none⟩ : Addr) ((Int.toNat ((1 : Int) - i136)) * 1)) = some (Value.pointer p143) ∧
                Calls Tryd.prog fn_dedup_Seen_Copy ⟨[(Value.pointer p143)]⟩ (World.drew w137) fun e144 w145 =>
                ∃ p146 : Option Addr, e144 = .returned (Value.pointer p146) ∧
                (∃ p147 : Option Addr, World.cell? w145 (Addr.add (⟨r13, 0, none⟩ : Addr) ((Int.toNat i136) * 1)) = some (Value.pointer p147) ∧
                (Value.pointer p147) = (Value.pointer p142)) ∧
                Calls Tryd.prog fn_dedup_Seen_Join ⟨[(Value.pointer p142), (Value.pointer p146)]⟩ w145 fun e148 w149 =>
                e148 = .returned (Value.tuple #[]) ∧
                0 ≤ i136 ∧ i136 < ((2 : Nat) : Int) ∧
                ∃ p150 : Option Addr, World.cell? (World.drew w149) (Addr.add (⟨r20, 0, none⟩ : Addr) ((Int.toNat i136) * 1)) = some (Value.pointer p150) ∧
                inR .i64 ((1 : Int) - i136) ∧
                0 ≤ ((1 : Int) - i136) ∧ ((1 : Int) - i136) < ((2 : Nat) : Int) ∧
                ∃ p151 : Option Addr, World.cell? (World.drew w149) (Addr.add (⟨r20, 0, none⟩ : Addr) ((Int.toNat ((1 : Int) - i136)) * 1)) = some (Value.pointer p151) ∧
                Calls Tryd.prog fn_tidewaterref22_Seen_Copy ⟨[(Value.pointer p151)]⟩ (World.drew w149) fun e152 w153 =>
                ∃ p154 : Option Addr, e152 = .returned (Value.pointer p154) ∧
                (∃ p155 : Option Addr, World.cell? w153 (Addr.add (⟨r20, 0, none⟩ : Addr) ((Int.toNat i136) * 1)) = some (Value.pointer p155) ∧
                (Value.pointer p155) = (Value.pointer p150)) ∧
                Calls Tryd.prog fn_tidewaterref22_Seen_Join ⟨[(Value.pointer p150), (Value.pointer p154)]⟩ w153 fun e156 w157 =>
                e156 = .returned (Value.tuple #[]) ∧
                J140 w157) (
                0 ≤ i136 ∧ i136 < ((2 : Nat) : Int) ∧
                ∃ p158 : Option Addr, World.cell? (World.drew w137) (Addr.add (⟨r13, 0, none⟩ : Addr) ((Int.toNat i136) * 1)) = some (Value.pointer p158) ∧
                ∃ n159 : Int, World.cell? (World.drew w137) (⟨r131, 1, none⟩ : Addr) = some (Value.int .i64 n159) ∧
                ∃ n160 : Int, World.cell? (World.drew w137) (⟨r131, 2, none⟩ : Addr) = some (Value.int .i64 n160) ∧
                ∃ n161 : Int, ∃ n162 : Int, rowAt (World.drew w137) (⟨r131, 3, none⟩ : Addr) 0 [(Value.int .i64 n161), (Value.int .i64 n162)] ∧
                0 ≤ i136 ∧ i136 < ((2 : Nat) : Int) ∧
                ∃ p163 : Option Addr, World.cell? (World.drew w137) (Addr.add (⟨r20, 0, none⟩ : Addr) ((Int.toNat i136) * 1)) = some (Value.pointer p163) ∧
                ∃ n164 : Int, World.cell? (World.drew w137) (⟨r131, 1, none⟩ : Addr) = some (Value.int .i64 n164) ∧
                ∃ n165 : Int, World.cell? (World.drew w137) (⟨r131, 2, none⟩ : Addr) = some (Value.int .i64 n165) ∧
                ∃ n166 : Int, ∃ n167 : Int, rowAt (World.drew w137) (⟨r131, 3, none⟩ : Addr) 0 [(Value.int .i64 n166), (Value.int .i64 n167)] ∧
                Calls Tryd.prog fn_dedup_Seen_Note ⟨[(Value.pointer p158), (Value.int .i64 n159), (Value.int .i64 n160), (Value.agg ⟨[(Value.int .i64 n161), (Value.int .i64 n162)]⟩)]⟩ (World.drew w137) fun e168 w169 =>
                ∃ e170 : Value, e168 = .returned e170 ∧
                (∃ n171 : Int, ∃ n172 : Int, rowAt w169 (⟨r131, 3, none⟩ : Addr) 0 [(Value.int .i64 n171), (Value.int .i64 n172)] ∧
                (Value.agg ⟨[(Value.int .i64 n171), (Value.int .i64 n172)]⟩) = (Value.agg ⟨[(Value.int .i64 n166), (Value.int .i64 n167)]⟩)) ∧
                (∃ n173 : Int, World.cell? w169 (⟨r131, 2, none⟩ : Addr) = some (Value.int .i64 n173) ∧
                (Value.int .i64 n173) = (Value.int .i64 n165)) ∧
                (∃ n174 : Int, World.cell? w169 (⟨r131, 1, none⟩ : Addr) = some (Value.int .i64 n174) ∧
                (Value.int .i64 n174) = (Value.int .i64 n164)) ∧
                (∃ p175 : Option Addr, World.cell? w169 (Addr.add (⟨r20, 0, none⟩ : Addr) ((Int.toNat i136) * 1)) = some (Value.pointer p175) ∧
                (Value.pointer p175) = (Value.pointer p163)) ∧
                Calls Tryd.prog fn_tidewaternum_Num ⟨[e170]⟩ w169 fun e176 w177 =>
                ∃ n178 : Int, e176 = .returned (Value.int .i64 n178) ∧
                (∃ n179 : Int, ∃ n180 : Int, rowAt w177 (⟨r131, 3, none⟩ : Addr) 0 [(Value.int .i64 n179), (Value.int .i64 n180)] ∧
                (Value.agg ⟨[(Value.int .i64 n179), (Value.int .i64 n180)]⟩) = (Value.agg ⟨[(Value.int .i64 n166), (Value.int .i64 n167)]⟩)) ∧
                (∃ n181 : Int, World.cell? w177 (⟨r131, 2, none⟩ : Addr) = some (Value.int .i64 n181) ∧
                (Value.int .i64 n181) = (Value.int .i64 n165)) ∧
                (∃ n182 : Int, World.cell? w177 (⟨r131, 1, none⟩ : Addr) = some (Value.int .i64 n182) ∧
                (Value.int .i64 n182) = (Value.int .i64 n164)) ∧
                (∃ p183 : Option Addr, World.cell? w177 (Addr.add (⟨r20, 0, none⟩ : Addr) ((Int.toNat i136) * 1)) = some (Value.pointer p183) ∧
                (Value.pointer p183) = (Value.pointer p163)) ∧
                Calls Tryd.prog fn_tidewaterref22_Seen_Note ⟨[(Value.pointer p163), (Value.int .i64 n164), (Value.int .i64 n165), (Value.agg ⟨[(Value.int .i64 n166), (Value.int .i64 n167)]⟩)]⟩ w177 fun e184 w185 =>
                ∃ n186 : Int, e184 = .returned (Value.int .i64 n186) ∧
                BIf (!decide (n178 = n186)) (
                  K (Value.bool false) w185) (
                  J140 w185))) ∧ (
            ∀ w187 : World, J140 w187 → ∀ u188 u189 u190 u191 u192 u193 u194 u195 u196 u197 u198 u199 u200 u201 u202 u203 u204 u205 u206 u207 u208 u209 u210 u211 u212 u213 u214 u215 u216 u217 u218 u219 u220 u221 u222 u223 u224 u225 u226 u227 u228 u229 u230 : Value,
              0 ≤ i136 ∧ i136 < ((2 : Nat) : Int) ∧
              ∃ p231 : Option Addr, World.cell? w187 (Addr.add (⟨r13, 0, none⟩ : Addr) ((Int.toNat i136) * 1)) = some (Value.pointer p231) ∧
              Calls Tryd.prog fn_dedup_Seen_Ask ⟨[(Value.pointer p231), (Value.int .i64 client2), (Value.int .i64 seq3)]⟩ w187 fun e232 w233 =>
              ∃ x234 : Int, ∃ x235 : Int, ∃ n236 : Int, e232 = .returned (Value.tuple ⟨[(Value.agg ⟨[(Value.int .i64 x234), (Value.int .i64 x235)]⟩), (Value.int .i64 n236)]⟩) ∧
              newS w233 (.cells ⟨[(Value.int .i64 (0 : Int)), (Value.int .i64 (0 : Int))]⟩ 28) fun r237 w238 =>
              canW w238 (⟨r237, 0, none⟩ : Addr) 2 ∧ ∀ w239 : World, w239 = setCells w238 (⟨r237, 0, none⟩ : Addr) 0 [(Value.int .i64 x234), (Value.int .i64 x235)] →
              0 ≤ i136 ∧ i136 < ((2 : Nat) : Int) ∧
              ∃ p240 : Option Addr, World.cell? w239 (Addr.add (⟨r20, 0, none⟩ : Addr) ((Int.toNat i136) * 1)) = some (Value.pointer p240) ∧
              Calls Tryd.prog fn_tidewaterref22_Seen_Ask ⟨[(Value.pointer p240), (Value.int .i64 client2), (Value.int .i64 seq3)]⟩ w239 fun e241 w242 =>
              ∃ x243 : Int, ∃ x244 : Int, ∃ n245 : Int, e241 = .returned (Value.tuple ⟨[(Value.agg ⟨[(Value.int .i64 x243), (Value.int .i64 x244)]⟩), (Value.int .i64 n245)]⟩) ∧
              newS w242 (.cells ⟨[(Value.int .i64 (0 : Int)), (Value.int .i64 (0 : Int))]⟩ 28) fun r246 w247 =>
              canW w247 (⟨r246, 0, none⟩ : Addr) 2 ∧ ∀ w248 : World, w248 = setCells w247 (⟨r246, 0, none⟩ : Addr) 0 [(Value.int .i64 x243), (Value.int .i64 x244)] →
              ∃ n249 : Int, ∃ n250 : Int, rowAt w248 (⟨r237, 0, none⟩ : Addr) 0 [(Value.int .i64 n249), (Value.int .i64 n250)] ∧
              ∃ n251 : Int, ∃ n252 : Int, rowAt w248 (⟨r246, 0, none⟩ : Addr) 0 [(Value.int .i64 n251), (Value.int .i64 n252)] ∧
              BIf (!((decide (n249 = n251)) && ((decide (n250 = n252)) && true))) (
                K (Value.bool false) w248) (
                BIf (!decide (n236 = n245)) (
                  K (Value.bool false) w248) (
                  0 ≤ (0 : Int) ∧ (0 : Int) < ((2 : Nat) : Int) ∧
                  ∃ p253 : Option Addr, World.cell? w248 (⟨r13, 0, none⟩ : Addr) = some (Value.pointer p253) ∧
                  0 ≤ (0 : Int) ∧ (0 : Int) < ((2 : Nat) : Int) ∧
                  ∃ p254 : Option Addr, World.cell? w248 (⟨r20, 0, none⟩ : Addr) = some (Value.pointer p254) ∧
                  Calls Tryd.prog fn_tidewaterlaw22_same ⟨[(Value.pointer p253), (Value.pointer p254)]⟩ w248 fun e255 w256 =>
                  ∃ b257 : Bool, e255 = .returned (Value.bool b257) ∧
                  BIf (!b257) (
                    K (Value.bool false) w256) (
                    0 ≤ (1 : Int) ∧ (1 : Int) < ((2 : Nat) : Int) ∧
                    ∃ p258 : Option Addr, World.cell? w256 (⟨r13, 1, none⟩ : Addr) = some (Value.pointer p258) ∧
                    0 ≤ (1 : Int) ∧ (1 : Int) < ((2 : Nat) : Int) ∧
                    ∃ p259 : Option Addr, World.cell? w256 (⟨r20, 1, none⟩ : Addr) = some (Value.pointer p259) ∧
                    Calls Tryd.prog fn_tidewaterlaw22_same ⟨[(Value.pointer p258), (Value.pointer p259)]⟩ w256 fun e260 w261 =>
                    ∃ b262 : Bool, e260 = .returned (Value.bool b262) ∧
                    BIf (!b262) (
                      K (Value.bool false) w261) (
                      inR .i64 (i25 + (1 : Int)) ∧
                      (I23 ((i25 + (1 : Int))) w261 ∧ mu24 ((i25 + (1 : Int))) w261 < mu24 i25 w26)))))))) (
          0 ≤ (0 : Int) ∧ (0 : Int) < ((2 : Nat) : Int) ∧
          ∃ p263 : Option Addr, World.cell? w26 (⟨r13, 0, none⟩ : Addr) = some (Value.pointer p263) ∧
          Calls Tryd.prog fn_dedup_Seen_Bytes ⟨[(Value.pointer p263)]⟩ w26 fun e264 w265 =>
          ∃ s266 : Slc, ∃ e267 : Value, e264 = .returned (Value.tuple ⟨[(Slc.v s266), e267]⟩) ∧
          ∃ J268 : World → Prop,
          (
            isI e267 ∧
            BIf (!isNilI e267) (
              K (Value.bool false) (World.drew w265)) (
              ∃ t269 : List UInt8, bytesAt (World.drew w265) s266 t269 ∧
              0 ≤ (0 : Int) ∧ (0 : Int) < ((2 : Nat) : Int) ∧
              ∃ p270 : Option Addr, World.cell? (World.drew w265) (⟨r20, 0, none⟩ : Addr) = some (Value.pointer p270) ∧
              Calls Tryd.prog fn_tidewaterref22_Seen_Bytes ⟨[(Value.pointer p270)]⟩ (World.drew w265) fun e271 w272 =>
              ∃ s273 : Slc, e271 = .returned (Slc.v s273) ∧
              (∃ t274 : List UInt8, bytesAt w272 s266 t274 ∧
              (strV t274) = (strV t269)) ∧
              ∃ t275 : List UInt8, bytesAt w272 s273 t275 ∧
              BIf (!decide (t269 = t275)) (
                K (Value.bool false) w272) (
                J268 w272))) ∧ (
          ∀ w276 : World, J268 w276 → ∀ u277 u278 u279 u280 u281 u282 u283 u284 u285 u286 u287 u288 : Value,
            Calls Tryd.prog fn_dedup_Read ⟨[(Slc.v s266)]⟩ w276 fun e289 w290 =>
            ∃ p291 : Option Addr, ∃ e292 : Value, e289 = .returned (Value.tuple ⟨[(Value.pointer p291), e292]⟩) ∧
            isI e292 ∧
            BIf (isNilI e292) (
              BIf (!Option.isNone (p291 : Option Addr)) (
                0 ≤ (0 : Int) ∧ (0 : Int) < ((2 : Nat) : Int) ∧
                ∃ p293 : Option Addr, World.cell? w290 (⟨r20, 0, none⟩ : Addr) = some (Value.pointer p293) ∧
                Calls Tryd.prog fn_tidewaterlaw22_same ⟨[(Value.pointer p291), (Value.pointer p293)]⟩ w290 fun e294 w295 =>
                ∃ b296 : Bool, e294 = .returned (Value.bool b296) ∧
                K (Value.bool b296) w295) (
                K (Value.bool false) w290)) (
              K (Value.bool false) w290))))))

theorem tidewaterlaw22_DedupPlays_eq (list1 : Slc) (client2 : Int) (seq3 : Int) (w : World) (K : Value → World → Prop) : tidewaterlaw22_DedupPlays list1 client2 seq3 w K = denF Tryd.prog callB Tryd.f4 (.two .none (.two .none (.two .none (.two .none (.two .none (.two (.two .none (.one (.loop [(34, (Sh.int .i64))] [6, 10, 11, 12, 13, 14, 15, 35, 36, 37, 38, 39, 40, 41, 42, 43, 44, 45, 46, 47, 48, 49, 50, 51, 52, 53, 54, 55, 56, 57, 58, 59, 60, 61, 62, 63, 64, 65, 66, 67, 68, 69, 70, 71, 72, 73, 74, 75, 76, 77, 78, 79, 80, 81, 82, 83, 84, 85, 86, 87, 88, 89, 90, 91, 92, 93, 94, 95, 96, 97, 98, 99, 100, 101, 102, 103, 104, 105, 106, 107, 108, 109, 110, 111, 112, 113, 114, 115, 116, 117, 118, 119, 120, 121, 122, 123, 124] (.two .none (.two .none (.two (.one (.two .none (.two .none (.cut [(11, (Sh.int .i64))] [38, 39] .none (.cut [] [6, 40, 41, 42, 43, 44, 45, 46, 47, 48, 49, 50, 51, 52, 53, 54, 55, 56, 57, 58, 59, 60, 61, 62, 63, 64, 65, 66, 67, 68, 69, 70, 71, 72, 73, 74, 75, 76, 77, 78, 79, 80, 81] .none .none))))) .none)))))) (.two .none (.cut [] [6, 131, 132, 133, 134, 135, 136, 137, 138, 139, 140, 141] .none .none)))))))) [(Slc.v list1), (Value.int .i64 client2), (Value.int .i64 seq3)] w K := by kernel_rfl
theorem tidewaterlaw22_DedupPlays_ok (list1 : Slc) (client2 : Int) (seq3 : Int) {w : World} {R : Ending → World → Prop} (h : tidewaterlaw22_DedupPlays list1 client2 seq3 w fun v w' => R (.returned v) w') : Calls Tryd.prog fn_tidewaterlaw22_DedupPlays ⟨[(Slc.v list1), (Value.int .i64 client2), (Value.int .i64 seq3)]⟩ w R :=
  calls_of_den callB_ok mixed Tryd.func4 (tidewaterlaw22_DedupPlays_eq list1 client2 seq3 w _ ▸ h)

end Go.D
