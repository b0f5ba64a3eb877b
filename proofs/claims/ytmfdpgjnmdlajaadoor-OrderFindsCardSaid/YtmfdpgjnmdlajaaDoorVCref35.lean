/-
  WHAT IS PROVED: verification conditions of functions of this program, each with its soundness. No further conditions.
-/
import Derived.Test.YtmfdpgjnmdlajaaDoorBase
set_option linter.unusedSimpArgs false
set_option maxRecDepth 100000
set_option linter.unusedVariables false
namespace Go.D
open Go Go.Proofs
/-- tidewater/tidewaterref35.Right -/
def tidewaterref35_Right (e1 : Int) (e2 : Int) (e3 : Int) (e4 : List UInt8) (e5 : List UInt8) (e6 : List UInt8) (e7 : Bool) (w : World) (K : Value → World → Prop) : Prop :=
  newS w (.cells ⟨[(Value.int .i64 e1), (Value.int .i64 e2), (Value.int .i64 e3), (strV e4), (strV e5), (strV e6), (Value.bool e7)]⟩ 33) fun r8 w9 =>
  ∃ n10 : Int, World.cell? w9 (⟨r8, 1, none⟩ : Addr) = some (Value.int .i64 n10) ∧
  ∃ n11 : Int, World.cell? w9 (⟨r8, 0, none⟩ : Addr) = some (Value.int .i64 n11) ∧
  BIf (decide (n11 ≤ n10)) (
    ∃ n12 : Int, World.cell? w9 (⟨r8, 2, none⟩ : Addr) = some (Value.int .i64 n12) ∧
    BIf (decide ((1 : Int) ≤ n12)) (
      ∃ n13 : Int, World.cell? w9 (⟨r8, 2, none⟩ : Addr) = some (Value.int .i64 n13) ∧
      K (Value.bool (decide (n13 ≤ (4 : Int)))) w9) (
      K (Value.bool false) w9)) (
    K (Value.bool false) w9)

theorem tidewaterref35_Right_eq (e1 : Int) (e2 : Int) (e3 : Int) (e4 : List UInt8) (e5 : List UInt8) (e6 : List UInt8) (e7 : Bool) (w : World) (K : Value → World → Prop) : tidewaterref35_Right e1 e2 e3 e4 e5 e6 e7 w K = denF Tryd.prog callB Tryd.f10 .none [(Value.agg ⟨[(Value.int .i64 e1), (Value.int .i64 e2), (Value.int .i64 e3), (strV e4), (strV e5), (strV e6), (Value.bool e7)]⟩)] w K := by kernel_rfl
theorem tidewaterref35_Right_ok (e1 : Int) (e2 : Int) (e3 : Int) (e4 : List UInt8) (e5 : List UInt8) (e6 : List UInt8) (e7 : Bool) {w : World} {R : Ending → World → Prop} (h : tidewaterref35_Right e1 e2 e3 e4 e5 e6 e7 w fun v w' => R (.returned v) w') : Calls Tryd.prog fn_tidewaterref35_Right ⟨[(Value.agg ⟨[(Value.int .i64 e1), (Value.int .i64 e2), (Value.int .i64 e3), (strV e4), (strV e5), (strV e6), (Value.bool e7)]⟩)]⟩ w R :=
  calls_of_den callB_ok mixed Tryd.func10 (tidewaterref35_Right_eq e1 e2 e3 e4 e5 e6 e7 w _ ▸ h)

/-- tidewater/tidewaterref35.Next -/
def tidewaterref35_Next (order1 : Slc) (w : World) (K : Value → World → Prop) : Prop :=
  inR .i64 (((order1.l : Nat) : Int) - (2 : Int)) ∧
  ∃ J2 : (Int) → World → Prop,
  (
    ∃ (I3 : (Int) → World → Prop) (mu4 : (Int) → World → Nat), I3 ((((order1.l : Nat) : Int) - (2 : Int))) w ∧ (
    ∀ i5 : Int, ∀ w6 : World, I3 i5 w6 → ∀ u7 u8 u9 u10 u11 u12 u13 u14 u15 u16 u17 u18 u19 u20 u21 u22 : Value,
      BIf (decide ((0 : Int) ≤ i5)) (
        needSome order1.p fun a23 =>
        0 ≤ i5 ∧ i5 < ((order1.l : Nat) : Int) ∧
        ∃ n24 : Int, World.cell? (World.drew w6) (Addr.add a23 ((Int.toNat i5) * 1)) = some (Value.int .i64 n24) ∧
        inR .i64 (i5 + (1 : Int)) ∧
        needSome order1.p fun a25 =>
        0 ≤ (i5 + (1 : Int)) ∧ (i5 + (1 : Int)) < ((order1.l : Nat) : Int) ∧
        ∃ n26 : Int, World.cell? (World.drew w6) (Addr.add a25 ((Int.toNat (i5 + (1 : Int))) * 1)) = some (Value.int .i64 n26) ∧
        BIf (decide (n26 < n24)) (
          inR .i64 (i5 - (1 : Int)) ∧
          (I3 ((i5 - (1 : Int))) (World.drew w6) ∧ mu4 ((i5 - (1 : Int))) (World.drew w6) < mu4 i5 w6)) (
          J2 (i5) (World.drew w6))) (
        J2 (i5) (World.drew w6)))) ∧ (
  ∀ i27 : Int, ∀ w28 : World, J2 i27 w28 → ∀ u29 u30 u31 u32 u33 u34 u35 u36 u37 u38 u39 u40 u41 u42 u43 u44 : Value,
    BIf (decide (i27 < (0 : Int))) (
      K (Value.bool false) w28) (
      inR .i64 (((order1.l : Nat) : Int) - (1 : Int)) ∧
      ∃ (I45 : (Int) → World → Prop) (mu46 : (Int) → World → Nat), I45 ((((order1.l : Nat) : Int) - (1 : Int))) w28 ∧ (
      ∀ k47 : Int, ∀ w48 : World, I45 k47 w48 → ∀ u49 u50 u51 u52 u53 u54 u55 u56 u57 u58 u59 : Value,
        needSome order1.p fun a60 =>
        0 ≤ k47 ∧ k47 < ((order1.l : Nat) : Int) ∧
        ∃ n61 : Int, World.cell? (World.drew w48) (Addr.add a60 ((Int.toNat k47) * 1)) = some (Value.int .i64 n61) ∧
        needSome order1.p fun a62 =>
        0 ≤ i27 ∧ i27 < ((order1.l : Nat) : Int) ∧
        ∃ n63 : Int, World.cell? (World.drew w48) (Addr.add a62 ((Int.toNat i27) * 1)) = some (Value.int .i64 n63) ∧
        BIf (decide (n61 < n63)) (
          inR .i64 (k47 - (1 : Int)) ∧
          (I45 ((k47 - (1 : Int))) (World.drew w48) ∧ mu46 ((k47 - (1 : Int))) (World.drew w48) < mu46 k47 w48)) (
          needSome order1.p fun a64 =>
          0 ≤ k47 ∧ k47 < ((order1.l : Nat) : Int) ∧
          ∃ n65 : Int, World.cell? (World.drew (World.drew w48)) (Addr.add a64 ((Int.toNat k47) * 1)) = some (Value.int .i64 n65) ∧
          needSome order1.p fun a66 =>
          0 ≤ i27 ∧ i27 < ((order1.l : Nat) : Int) ∧
          ∃ n67 : Int, World.cell? (World.drew (World.drew w48)) (Addr.add a66 ((Int.toNat i27) * 1)) = some (Value.int .i64 n67) ∧
          needSome order1.p fun a68 =>
          0 ≤ i27 ∧ i27 < ((order1.l : Nat) : Int) ∧
          canW (World.drew (World.drew w48)) (Addr.add a68 ((Int.toNat i27) * 1)) 1 ∧ ∀ w69 : World, w69 = World.setCell (World.drew (World.drew w48)) (Addr.add a68 ((Int.toNat i27) * 1)) (Value.int .i64 n65) →
          needSome order1.p fun a70 =>
          0 ≤ k47 ∧ k47 < ((order1.l : Nat) : Int) ∧
          canW w69 (Addr.add a70 ((Int.toNat k47) * 1)) 1 ∧ ∀ w71 : World, w71 = World.setCell w69 (Addr.add a70 ((Int.toNat k47) * 1)) (Value.int .i64 n67) →
          inR .i64 (i27 + (1 : Int)) ∧
          inR .i64 (((order1.l : Nat) : Int) - (1 : Int)) ∧
          ∃ (I72 : (Int) → (Int) → World → Prop) (mu73 : (Int) → (Int) → World → Nat), I72 ((i27 + (1 : Int))) ((((order1.l : Nat) : Int) - (1 : Int))) w71 ∧ (
          ∀ a74 : Int, ∀ b75 : Int, ∀ w76 : World, I72 a74 b75 w76 → ∀ u77 u78 u79 u80 u81 u82 u83 u84 u85 u86 u87 u88 u89 u90 u91 u92 u93 u94 u95 u96 u97 : Value,
            BIf (decide (a74 < b75)) (
              needSome order1.p fun a98 =>
              0 ≤ b75 ∧ b75 < ((order1.l : Nat) : Int) ∧
              ∃ n99 : Int, World.cell? (World.drew w76) (Addr.add a98 ((Int.toNat b75) * 1)) = some (Value.int .i64 n99) ∧
              needSome order1.p fun a100 =>
              0 ≤ a74 ∧ a74 < ((order1.l : Nat) : Int) ∧
              ∃ n101 : Int, World.cell? (World.drew w76) (Addr.add a100 ((Int.toNat a74) * 1)) = some (Value.int .i64 n101) ∧
              needSome order1.p fun a102 =>
              0 ≤ a74 ∧ a74 < ((order1.l : Nat) : Int) ∧
              canW (World.drew w76) (Addr.add a102 ((Int.toNat a74) * 1)) 1 ∧ ∀ w103 : World, w103 = World.setCell (World.drew w76) (Addr.add a102 ((Int.toNat a74) * 1)) (Value.int .i64 n99) →
              needSome order1.p fun a104 =>
              0 ≤ b75 ∧ b75 < ((order1.l : Nat) : Int) ∧
              canW w103 (Addr.add a104 ((Int.toNat b75) * 1)) 1 ∧ ∀ w105 : World, w105 = World.setCell w103 (Addr.add a104 ((Int.toNat b75) * 1)) (Value.int .i64 n101) →
              inR .i64 (a74 + (1 : Int)) ∧
              inR .i64 (b75 - (1 : Int)) ∧
              (I72 ((a74 + (1 : Int))) ((b75 - (1 : Int))) w105 ∧ mu73 ((a74 + (1 : Int))) ((b75 - (1 : Int))) w105 < mu73 a74 b75 w76)) (
              K (Value.bool true) w76))))))

theorem tidewaterref35_Next_eq (order1 : Slc) (w : World) (K : Value → World → Prop) : tidewaterref35_Next order1 w K = denF Tryd.prog callB Tryd.f24 (.two .none (.two .none (.cut [(3, (Sh.int .i64))] [10, 11, 12, 13, 14, 15, 16, 17, 18, 19, 20, 21, 22, 23, 24, 25] (.one (.loop [(3, (Sh.int .i64))] [10, 11, 12, 13, 14, 15, 16, 17, 18, 19, 20, 21, 22, 23, 24, 25] .none)) (.two .none (.two .none (.two (.one (.loop [(4, (Sh.int .i64))] [31, 32, 33, 34, 35, 36, 37, 38, 39, 40, 41] .none)) (.two .none (.two (.two .none (.one (.loop [(5, (Sh.int .i64)), (6, (Sh.int .i64))] [61, 62, 63, 64, 65, 66, 67, 68, 69, 70, 71, 72, 73, 74, 75, 76, 77, 78, 79, 80, 81] .none))) .none)))))))) [(Slc.v order1)] w K := by kernel_rfl
theorem tidewaterref35_Next_ok (order1 : Slc) {w : World} {R : Ending → World → Prop} (h : tidewaterref35_Next order1 w fun v w' => R (.returned v) w') : Calls Tryd.prog fn_tidewaterref35_Next ⟨[(Slc.v order1)]⟩ w R :=
  calls_of_den callB_ok mixed Tryd.func24 (tidewaterref35_Next_eq order1 w _ ▸ h)

/-- tidewater/tidewaterref35.Stands -/
def tidewaterref35_Stands (l1 : Slc) (order2 : Slc) (w : World) (K : Value → World → Prop) : Prop :=
  BIf (!decide (((order2.l : Nat) : Int) = ((l1.l : Nat) : Int))) (
    K (Value.bool false) w) (
    ∃ (I3 : (Int) → World → Prop) (mu4 : (Int) → World → Nat), I3 ((0 : Int)) w ∧ (
    ∀ i5 : Int, ∀ w6 : World, I3 i5 w6 → ∀ u7 u8 u9 u10 u11 u12 u13 u14 u15 u16 u17 u18 u19 u20 u21 u22 u23 u24 u25 u26 u27 u28 u29 u30 u31 u32 u33 u34 u35 u36 u37 : Value,
      BIf (decide (i5 < ((order2.l : Nat) : Int))) (
        needSome order2.p fun a38 =>
        0 ≤ i5 ∧ i5 < ((order2.l : Nat) : Int) ∧
        ∃ n39 : Int, World.cell? w6 (Addr.add a38 ((Int.toNat i5) * 1)) = some (Value.int .i64 n39) ∧
        BIf (decide (n39 < (0 : Int))) (
          K (Value.bool false) w6) (
          BIf (decide (((l1.l : Nat) : Int) ≤ n39)) (
            K (Value.bool false) w6) (
            needSome l1.p fun a40 =>
            0 ≤ n39 ∧ n39 < ((l1.l : Nat) : Int) ∧
            ∃ n41 : Int, ∃ n42 : Int, ∃ n43 : Int, ∃ t44 : List UInt8, ∃ t45 : List UInt8, ∃ t46 : List UInt8, ∃ b47 : Bool, rowAt w6 (Addr.add a40 ((Int.toNat n39) * 7)) 0 [(Value.int .i64 n41), (Value.int .i64 n42), (Value.int .i64 n43), (strV t44), (strV t45), (strV t46), (Value.bool b47)] ∧
            Calls Tryd.prog fn_tidewaterref35_Right ⟨[(Value.agg ⟨[(Value.int .i64 n41), (Value.int .i64 n42), (Value.int .i64 n43), (strV t44), (strV t45), (strV t46), (Value.bool b47)]⟩)]⟩ w6 fun e48 w49 =>
            ∃ b50 : Bool, e48 = .returned (Value.bool b50) ∧
            BIf (!b50) (
              K (Value.bool false) w49) (
              0 ≤ (0 : Int) ∧ (0 : Int) ≤ i5 ∧ i5 ≤ ((order2.c : Nat) : Int) ∧ ((order2.c : Nat) : Int) ≤ ((order2.c : Nat) : Int) ∧
              Calls Tryd.prog fn_tidewaternum_In ⟨[(Slc.v (Slc.sub order2 1 0 (Int.toNat i5) order2.c)), (Value.int .i64 n39)]⟩ w49 fun e52 w53 =>
              ∃ b54 : Bool, e52 = .returned (Value.bool b54) ∧
              BIf b54 (
                K (Value.bool false) w53) (
                inR .i64 (i5 + (1 : Int)) ∧
                (I3 ((i5 + (1 : Int))) w53 ∧ mu4 ((i5 + (1 : Int))) w53 < mu4 i5 w6)))))) (
        ∃ (I55 : (Int) → World → Prop) (mu56 : (Int) → World → Nat), I55 ((0 : Int)) w6 ∧ (
        ∀ i57 : Int, ∀ w58 : World, I55 i57 w58 → ∀ u59 u60 u61 u62 u63 u64 u65 u66 u67 u68 u69 u70 u71 u72 u73 u74 u75 u76 u77 u78 u79 u80 u81 u82 u83 u84 u85 u86 u87 u88 u89 : Value,
          BIf (decide (i57 < ((order2.l : Nat) : Int))) (
            inR .i64 (i57 + (1 : Int)) ∧
            ∃ (I90 : (Int) → World → Prop) (mu91 : (Int) → World → Nat), I90 ((i57 + (1 : Int))) w58 ∧ (
            ∀ k92 : Int, ∀ w93 : World, I90 k92 w93 → ∀ u94 u95 u96 u97 u98 u99 u100 u101 u102 u103 u104 u105 u106 u107 u108 u109 u110 u111 u112 u113 u114 u115 u116 u117 : Value,
              BIf (decide (k92 < ((order2.l : Nat) : Int))) (
                needSome order2.p fun a118 =>
                0 ≤ k92 ∧ k92 < ((order2.l : Nat) : Int) ∧
                ∃ n119 : Int, World.cell? (World.drew w93) (Addr.add a118 ((Int.toNat k92) * 1)) = some (Value.int .i64 n119) ∧
                needSome l1.p fun a120 =>
                0 ≤ n119 ∧ n119 < ((l1.l : Nat) : Int) ∧
                ∃ n121 : Int, World.cell? (World.drew w93) ((Addr.add a120 ((Int.toNat n119) * 7)).add 1) = some (Value.int .i64 n121) ∧
                needSome order2.p fun a122 =>
                0 ≤ i57 ∧ i57 < ((order2.l : Nat) : Int) ∧
                ∃ n123 : Int, World.cell? (World.drew w93) (Addr.add a122 ((Int.toNat i57) * 1)) = some (Value.int .i64 n123) ∧
                needSome l1.p fun a124 =>
                0 ≤ n123 ∧ n123 < ((l1.l : Nat) : Int) ∧
                ∃ n125 : Int, World.cell? (World.drew w93) (Addr.add a124 ((Int.toNat n123) * 7)) = some (Value.int .i64 n125) ∧
                BIf (decide (n121 < n125)) (
                  K (Value.bool false) (World.drew w93)) (
                  inR .i64 (k92 + (1 : Int)) ∧
                  (I90 ((k92 + (1 : Int))) (World.drew w93) ∧ mu91 ((k92 + (1 : Int))) (World.drew w93) < mu91 k92 w93))) (
                inR .i64 (i57 + (1 : Int)) ∧
                (I55 ((i57 + (1 : Int))) w93 ∧ mu56 ((i57 + (1 : Int))) w93 < mu56 i57 w58)))) (
            newS w58 (.cells ⟨[]⟩ 62) fun r126 w127 =>
            ∃ (I128 : (Slc) → (Int) → World → Prop) (mu129 : (Slc) → (Int) → World → Nat), I128 ((⟨(some (⟨r126, 0, none⟩ : Addr)), 0, 0⟩ : Slc)) ((0 : Int)) w127 ∧ (
            ∀ t130 : Slc, ∀ i131 : Int, ∀ w132 : World, I128 t130 i131 w132 → ∀ u133 u134 u135 u136 u137 u138 u139 u140 u141 u142 u143 u144 u145 u146 u147 u148 u149 u150 u151 u152 u153 u154 u155 u156 u157 u158 u159 u160 u161 u162 u163 u164 u165 u166 u167 u168 u169 u170 u171 u172 u173 u174 u175 u176 u177 u178 u179 u180 u181 u182 u183 u184 u185 u186 u187 u188 u189 u190 u191 u192 u193 u194 u195 u196 u197 u198 u199 u200 u201 u202 u203 u204 u205 u206 u207 u208 u209 u210 u211 u212 u213 u214 u215 u216 u217 u218 u219 u220 u221 u222 u223 u224 u225 u226 u227 u228 u229 u230 u231 u232 u233 u234 u235 u236 u237 u238 u239 u240 u241 u242 u243 u244 u245 u246 : Value,
              BIf (decide (i131 < ((order2.l : Nat) : Int))) (
                needSome order2.p fun a247 =>
                0 ≤ i131 ∧ i131 < ((order2.l : Nat) : Int) ∧
                ∃ n248 : Int, World.cell? w132 (Addr.add a247 ((Int.toNat i131) * 1)) = some (Value.int .i64 n248) ∧
                needSome l1.p fun a249 =>
                0 ≤ n248 ∧ n248 < ((l1.l : Nat) : Int) ∧
                ∃ n250 : Int, ∃ n251 : Int, ∃ n252 : Int, ∃ t253 : List UInt8, ∃ t254 : List UInt8, ∃ t255 : List UInt8, ∃ b256 : Bool, rowAt w132 (Addr.add a249 ((Int.toNat n248) * 7)) 0 [(Value.int .i64 n250), (Value.int .i64 n251), (Value.int .i64 n252), (strV t253), (strV t254), (strV t255), (Value.bool b256)] ∧
                newS w132 (.cells ⟨[(Value.int .i64 (0 : Int)), (Value.int .i64 (0 : Int)), (Value.int .i64 (0 : Int)), (strV ([] : List UInt8)), (strV ([] : List UInt8)), (strV ([] : List UInt8)), (Value.bool false)]⟩ 33) fun r257 w258 =>
                canW w258 (⟨r257, 0, none⟩ : Addr) 7 ∧ ∀ w259 : World, w259 = setCells w258 (⟨r257, 0, none⟩ : Addr) 0 [(Value.int .i64 n250), (Value.int .i64 n251), (Value.int .i64 n252), (strV t253), (strV t254), (strV t255), (Value.bool b256)] →
                ∃ (I260 : (Int) → (Int) → World → Prop) (mu261 : (Int) → (Int) → World → Nat), I260 ((-1 : Int)) ((0 : Int)) w259 ∧ (
                ∀ at262 : Int, ∀ i263 : Int, ∀ w264 : World, I260 at262 i263 w264 → ∀ u265 u266 u267 u268 u269 u270 u271 u272 u273 u274 u275 u276 u277 : Value,
                  BIf (decide (i263 < ((t130.l : Nat) : Int))) (
                    needSome t130.p fun a278 =>
                    0 ≤ i263 ∧ i263 < ((t130.l : Nat) : Int) ∧
                    ∃ t279 : List UInt8, ∃ t280 : List UInt8, rowAt w264 (Addr.add a278 ((Int.toNat i263) * 2)) 0 [(strV t279), (strV t280)] ∧
                    newS w264 (.cells ⟨[(strV ([] : List UInt8)), (strV ([] : List UInt8))]⟩ 62) fun r281 w282 =>
                    canW w282 (⟨r281, 0, none⟩ : Addr) 2 ∧ ∀ w283 : World, w283 = setCells w282 (⟨r281, 0, none⟩ : Addr) 0 [(strV t279), (strV t280)] →
                    ∃ t284 : List UInt8, World.cell? w283 (⟨r281, 0, none⟩ : Addr) = some (strV t284) ∧
                    ∃ t285 : List UInt8, World.cell? w283 (⟨r257, 3, none⟩ : Addr) = some (strV t285) ∧
                    BIf (decide (t284 = t285)) (
                      inR .i64 (i263 + (1 : Int)) ∧
                      (I260 (i263) ((i263 + (1 : Int))) w283 ∧ mu261 (i263) ((i263 + (1 : Int))) w283 < mu261 at262 i263 w264)) (
                      inR .i64 (i263 + (1 : Int)) ∧
                      (I260 (at262) ((i263 + (1 : Int))) w283 ∧ mu261 (at262) ((i263 + (1 : Int))) w283 < mu261 at262 i263 w264))) (
                    ∃ n286 : Int, World.cell? w264 (⟨r257, 2, none⟩ : Addr) = some (Value.int .i64 n286) ∧
                    BIf (decide (n286 = (1 : Int))) (
                      BIf (decide ((0 : Int) ≤ at262)) (
                        ∃ t287 : List UInt8, World.cell? w264 (⟨r257, 4, none⟩ : Addr) = some (strV t287) ∧
                        needSome t130.p fun a288 =>
                        0 ≤ at262 ∧ at262 < ((t130.l : Nat) : Int) ∧
                        canW w264 ((Addr.add a288 ((Int.toNat at262) * 2)).add 1) 1 ∧ ∀ w289 : World, w289 = World.setCell w264 ((Addr.add a288 ((Int.toNat at262) * 2)).add 1) (strV t287) →
                        inR .i64 (i131 + (1 : Int)) ∧
                        (I128 (t130) ((i131 + (1 : Int))) w289 ∧ mu129 (t130) ((i131 + (1 : Int))) w289 < mu129 t130 i131 w132)) (
                        ∃ t290 : List UInt8, World.cell? w264 (⟨r257, 3, none⟩ : Addr) = some (strV t290) ∧
                        ∃ t291 : List UInt8, World.cell? w264 (⟨r257, 4, none⟩ : Addr) = some (strV t291) ∧
                        newS w264 (.cells ⟨[(strV t290), (strV t291)]⟩ 62) fun r292 w293 =>
                        appendS 2 62 [(strV ([] : List UInt8)), (strV ([] : List UInt8))] w293 t130 (.slc (⟨(some (⟨r292, 0, none⟩ : Addr)), 1, 1⟩ : Slc)) fun s294 w295 =>
                        inR .i64 (i131 + (1 : Int)) ∧
                        (I128 (s294) ((i131 + (1 : Int))) w295 ∧ mu129 (s294) ((i131 + (1 : Int))) w295 < mu129 t130 i131 w132))) (
                      BIf (decide (n286 = (2 : Int))) (
                        ∃ b296 : Bool, World.cell? w264 (⟨r257, 6, none⟩ : Addr) = some (Value.bool b296) ∧
                        BIf (!(b296 == (decide ((0 : Int) ≤ at262)))) (
                          K (Value.bool false) w264) (
                          BIf (decide ((0 : Int) ≤ at262)) (
                            0 ≤ (0 : Int) ∧ (0 : Int) ≤ at262 ∧ at262 ≤ ((t130.c : Nat) : Int) ∧ ((t130.c : Nat) : Int) ≤ ((t130.c : Nat) : Int) ∧
                            inR .i64 (at262 + (1 : Int)) ∧
                            0 ≤ (at262 + (1 : Int)) ∧ (at262 + (1 : Int)) ≤ ((t130.l : Nat) : Int) ∧ ((t130.l : Nat) : Int) ≤ ((t130.c : Nat) : Int) ∧ ((t130.c : Nat) : Int) ≤ ((t130.c : Nat) : Int) ∧
                            newS (World.drew w264) (.cells ⟨[]⟩ 62) fun r299 w300 =>
                            appendS 2 62 [(strV ([] : List UInt8)), (strV ([] : List UInt8))] w300 (⟨(some (⟨r299, 0, none⟩ : Addr)), 0, 0⟩ : Slc) (.slc (Slc.sub t130 2 0 (Int.toNat at262) t130.c)) fun s301 w302 =>
                            appendS 2 62 [(strV ([] : List UInt8)), (strV ([] : List UInt8))] w302 s301 (.slc (Slc.sub t130 2 (Int.toNat (at262 + (1 : Int))) t130.l t130.c)) fun s303 w304 =>
                            inR .i64 (i131 + (1 : Int)) ∧
                            (I128 (s303) ((i131 + (1 : Int))) w304 ∧ mu129 (s303) ((i131 + (1 : Int))) w304 < mu129 t130 i131 w132)) (
                            inR .i64 (i131 + (1 : Int)) ∧
                            (I128 (t130) ((i131 + (1 : Int))) w264 ∧ mu129 (t130) ((i131 + (1 : Int))) w264 < mu129 t130 i131 w132)))) (
                        BIf (decide (n286 = (3 : Int))) (
                          ∃ J305 : (Bool) → World → Prop,
                          (
                            BIf (decide ((0 : Int) ≤ at262)) (
                              needSome t130.p fun a306 =>
                              0 ≤ at262 ∧ at262 < ((t130.l : Nat) : Int) ∧
                              ∃ t307 : List UInt8, World.cell? (World.drew w264) ((Addr.add a306 ((Int.toNat at262) * 2)).add 1) = some (strV t307) ∧
                              ∃ t308 : List UInt8, World.cell? (World.drew w264) (⟨r257, 5, none⟩ : Addr) = some (strV t308) ∧
                              J305 ((decide (t307 = t308))) (World.drew w264)) (
                              J305 (false) (World.drew w264))) ∧ (
                          ∀ done309 : Bool, ∀ w310 : World, J305 done309 w310 → ∀ u311 u312 u313 u314 u315 u316 u317 u318 u319 u320 u321 u322 : Value,
                            ∃ b323 : Bool, World.cell? w310 (⟨r257, 6, none⟩ : Addr) = some (Value.bool b323) ∧
                            BIf (!(b323 == done309)) (
                              K (Value.bool false) w310) (
                              BIf done309 (
                                ∃ t324 : List UInt8, World.cell? w310 (⟨r257, 4, none⟩ : Addr) = some (strV t324) ∧
                                needSome t130.p fun a325 =>
                                0 ≤ at262 ∧ at262 < ((t130.l : Nat) : Int) ∧
                                canW w310 ((Addr.add a325 ((Int.toNat at262) * 2)).add 1) 1 ∧ ∀ w326 : World, w326 = World.setCell w310 ((Addr.add a325 ((Int.toNat at262) * 2)).add 1) (strV t324) →
                                inR .i64 (i131 + (1 : Int)) ∧
                                (I128 (t130) ((i131 + (1 : Int))) w326 ∧ mu129 (t130) ((i131 + (1 : Int))) w326 < mu129 t130 i131 w132)) (
                                inR .i64 (i131 + (1 : Int)) ∧
                                (I128 (t130) ((i131 + (1 : Int))) w310 ∧ mu129 (t130) ((i131 + (1 : Int))) w310 < mu129 t130 i131 w132))))) (
                          BIf (decide (n286 = (4 : Int))) (
                            ∃ b327 : Bool, World.cell? (World.drew w264) (⟨r257, 6, none⟩ : Addr) = some (Value.bool b327) ∧
                            BIf (!(b327 == (decide ((0 : Int) ≤ at262)))) (
                              K (Value.bool false) (World.drew w264)) (
                              BIf (decide ((0 : Int) ≤ at262)) (
                                needSome t130.p fun a328 =>
                                0 ≤ at262 ∧ at262 < ((t130.l : Nat) : Int) ∧
                                ∃ t329 : List UInt8, World.cell? (World.drew w264) ((Addr.add a328 ((Int.toNat at262) * 2)).add 1) = some (strV t329) ∧
                                ∃ t330 : List UInt8, World.cell? (World.drew w264) (⟨r257, 4, none⟩ : Addr) = some (strV t330) ∧
                                BIf (!decide (t329 = t330)) (
                                  K (Value.bool false) (World.drew w264)) (
                                  inR .i64 (i131 + (1 : Int)) ∧
                                  (I128 (t130) ((i131 + (1 : Int))) (World.drew w264) ∧ mu129 (t130) ((i131 + (1 : Int))) (World.drew w264) < mu129 t130 i131 w132))) (
                                inR .i64 (i131 + (1 : Int)) ∧
                                (I128 (t130) ((i131 + (1 : Int))) (World.drew w264) ∧ mu129 (t130) ((i131 + (1 : Int))) (World.drew w264) < mu129 t130 i131 w132)))) (
                            inR .i64 (i131 + (1 : Int)) ∧
                            (I128 (t130) ((i131 + (1 : Int))) w264 ∧ mu129 (t130) ((i131 + (1 : Int))) w264 < mu129 t130 i131 w132)))))))) (
                K (Value.bool true) w132)))))))

theorem tidewaterref35_Stands_eq (l1 : Slc) (order2 : Slc) (w : World) (K : Value → World → Prop) : tidewaterref35_Stands l1 order2 w K = denF Tryd.prog callB Tryd.f16 (.two .none (.two .none (.two (.two .none (.one (.loop [(24, (Sh.int .i64))] [4, 5, 6, 25, 26, 27, 28, 29, 30, 31, 32, 33, 34, 35, 36, 37, 38, 39, 40, 41, 42, 43, 44, 45, 46, 47, 48, 49, 50, 51, 52] .none))) (.two (.two .none (.one (.loop [(55, (Sh.int .i64))] [4, 7, 8, 56, 57, 58, 59, 60, 61, 62, 63, 64, 65, 66, 67, 68, 69, 70, 71, 72, 73, 74, 75, 76, 77, 78, 79, 80, 81, 82, 83] (.two .none (.two .none (.two (.one (.two .none (.two .none (.one (.loop [(8, (Sh.int .i64))] [4, 60, 61, 62, 63, 64, 65, 66, 67, 68, 69, 70, 71, 72, 73, 74, 75, 76, 77, 78, 79, 80, 81, 82] .none))))) .none)))))) (.two .none (.two (.two .none (.one (.loop [(9, Sh.slc), (87, (Sh.int .i64))] [4, 11, 12, 13, 14, 15, 16, 88, 89, 90, 91, 92, 93, 94, 95, 96, 97, 98, 99, 100, 101, 102, 103, 104, 105, 106, 107, 108, 109, 110, 111, 112, 113, 114, 115, 116, 117, 118, 119, 120, 121, 122, 123, 124, 125, 126, 127, 128, 129, 130, 131, 132, 133, 134, 135, 136, 137, 138, 139, 140, 141, 142, 143, 144, 145, 146, 147, 148, 149, 150, 151, 152, 153, 154, 155, 156, 157, 158, 159, 160, 161, 162, 163, 164, 165, 166, 167, 168, 169, 170, 171, 172, 173, 174, 175, 176, 177, 178, 179, 180, 181, 182, 183, 184, 185, 186, 187, 188, 189, 190, 191, 192, 193, 194] (.two .none (.two .none (.two (.one (.two .none (.two .none (.two .none (.two (.two .none (.one (.loop [(13, (Sh.int .i64)), (97, (Sh.int .i64))] [14, 15, 98, 99, 100, 101, 102, 103, 104, 105, 106, 107, 108] .none))) (.two .none (.one (.two .none (.two .none (.two .none (.two .none (.two .none (.two (.cut [(16, Sh.bool)] [150, 151, 152, 153, 154, 155, 156, 157, 158, 159, 160, 161] .none .none) .none))))))))))))) .none)))))) .none)))))) [(Slc.v l1), (Slc.v order2)] w K := by kernel_rfl
theorem tidewaterref35_Stands_ok (l1 : Slc) (order2 : Slc) {w : World} {R : Ending → World → Prop} (h : tidewaterref35_Stands l1 order2 w fun v w' => R (.returned v) w') : Calls Tryd.prog fn_tidewaterref35_Stands ⟨[(Slc.v l1), (Slc.v order2)]⟩ w R :=
  calls_of_den callB_ok mixed Tryd.func16 (tidewaterref35_Stands_eq l1 order2 w _ ▸ h)

/-- tidewater/tidewaterref35.Find -/
def tidewaterref35_Find (l1 : Slc) (w : World) (K : Value → World → Prop) : Prop :=
  newS w (.cells ⟨[]⟩ 3) fun r2 w3 =>
  ∃ (I4 : (Slc) → (Int) → World → Prop) (mu5 : (Slc) → (Int) → World → Nat), I4 ((⟨(some (⟨r2, 0, none⟩ : Addr)), 0, 0⟩ : Slc)) ((0 : Int)) w3 ∧ (
  ∀ order6 : Slc, ∀ i7 : Int, ∀ w8 : World, I4 order6 i7 w8 → ∀ u9 u10 u11 u12 u13 u14 u15 u16 : Value,
    BIf (decide (i7 < ((l1.l : Nat) : Int))) (
      newS w8 (.cells ⟨[(Value.int .i64 i7)]⟩ 3) fun r17 w18 =>
      appendS 1 3 [(Value.int .i64 (0 : Int))] w18 order6 (.slc (⟨(some (⟨r17, 0, none⟩ : Addr)), 1, 1⟩ : Slc)) fun s19 w20 =>
      inR .i64 (i7 + (1 : Int)) ∧
      (I4 (s19) ((i7 + (1 : Int))) w20 ∧ mu5 (s19) ((i7 + (1 : Int))) w20 < mu5 order6 i7 w8)) (
      ∃ (I21 : World → Prop) (mu22 : World → Nat), I21 w8 ∧ (
      ∀ w23 : World, I21 w23 → ∀ u24 u25 u26 u27 u28 u29 u30 u31 u32 : Value,
        Calls Tryd.prog fn_tidewaterref35_Stands ⟨[(Slc.v l1), (Slc.v order6)]⟩ w23 fun e33 w34 =>
        ∃ b35 : Bool, e33 = .returned (Value.bool b35) ∧
        BIf b35 (
          K (Value.tuple ⟨[(Slc.v order6), (Value.bool true)]⟩) w34) (
          Calls Tryd.prog fn_tidewaterref35_Next ⟨[(Slc.v order6)]⟩ w34 fun e36 w37 =>
          ∃ b38 : Bool, e36 = .returned (Value.bool b38) ∧
          BIf (!b38) (
            K (Value.tuple ⟨[(Slc.v (⟨none, 0, 0⟩ : Slc)), (Value.bool false)]⟩) w37) (
            (I21 w37 ∧ mu22 w37 < mu22 w23))))))

theorem tidewaterref35_Find_eq (l1 : Slc) (w : World) (K : Value → World → Prop) : tidewaterref35_Find l1 w K = denF Tryd.prog callB Tryd.f13 (.two .none (.two .none (.two (.two .none (.one (.loop [(4, Sh.slc), (9, (Sh.int .i64))] [5, 10, 11, 12, 13, 14, 15, 16] .none))) (.one (.loop [] [2, 3, 17, 18, 19, 20, 21, 22, 23] .none))))) [(Slc.v l1)] w K := by kernel_rfl
theorem tidewaterref35_Find_ok (l1 : Slc) {w : World} {R : Ending → World → Prop} (h : tidewaterref35_Find l1 w fun v w' => R (.returned v) w') : Calls Tryd.prog fn_tidewaterref35_Find ⟨[(Slc.v l1)]⟩ w R :=
  calls_of_den callB_ok mixed Tryd.func13 (tidewaterref35_Find_eq l1 w _ ▸ h)

end Go.D
