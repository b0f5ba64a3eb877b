/-
  WHAT IS PROVED: verification conditions of functions of this program, each with its soundness. No further conditions.
-/
import Derived.Test.YtbeciidagekppaaDoorBase
set_option linter.unusedSimpArgs false
set_option maxRecDepth 100000
set_option linter.unusedVariables false
namespace Go.D
open Go Go.Proofs
/-- tidewater/tidewaterlaw09.alive -/
def tidewaterlaw09_alive  (w : World) (K : Value → World → Prop) : Prop :=
  Calls Tryd.prog fn_disk_New ⟨[(Value.int .i64 (64 : Int))]⟩ w fun e1 w2 =>
  ∃ p3 : Option Addr, ∃ e4 : Value, e1 = .returned (Value.tuple ⟨[(Value.pointer p3), e4]⟩) ∧
  ∃ J5 : World → Prop,
  (
    isI e4 ∧
    BIf (!isNilI e4) (
      K (Value.bool false) w2) (
      BIf (Option.isNone (p3 : Option Addr)) (
        K (Value.bool false) w2) (
        J5 w2))) ∧ (
  ∀ w6 : World, J5 w6 → ∀ u7 u8 u9 u10 u11 u12 u13 : Value,
    Calls Tryd.prog fn_unit_Open ⟨[(Value.pointer p3)]⟩ w6 fun e14 w15 =>
    ∃ p16 : Option Addr, ∃ e17 : Value, e14 = .returned (Value.tuple ⟨[(Value.pointer p16), e17]⟩) ∧
    ∃ J18 : World → Prop,
    (
      isI e17 ∧
      BIf (!isNilI e17) (
        K (Value.bool false) w15) (
        BIf (Option.isNone (p16 : Option Addr)) (
          K (Value.bool false) w15) (
          J18 w15))) ∧ (
    ∀ w19 : World, J18 w19 → ∀ u20 u21 u22 u23 u24 u25 u26 : Value,
      newS w19 (.cells ⟨[(Value.int .u8 (97 : Int))]⟩ 5) fun r27 w28 =>
      ∀ w30 : World, w30 = markW w28 r27 →
      Calls Tryd.prog fn_unit_Unit_Write ⟨[(Value.pointer p16), (Value.int .i64 (0 : Int)), (Value.int .i64 (3 : Int)), (Slc.v (⟨(some (⟨r27, 0, none⟩ : Addr)), 1, 1⟩ : Slc))]⟩ w30 fun e31 w32 =>
      ∃ e33 : Value, e31 = .returned e33 ∧
      isI e33 ∧
      BIf (isNilI e33) (
        newS w32 (.cells ⟨[(Value.int .u8 (98 : Int))]⟩ 5) fun r34 w35 =>
        ∀ w37 : World, w37 = markW w35 r34 →
        Calls Tryd.prog fn_unit_Unit_Write ⟨[(Value.pointer p16), (Value.int .i64 (0 : Int)), (Value.int .i64 (3 : Int)), (Slc.v (⟨(some (⟨r34, 0, none⟩ : Addr)), 1, 1⟩ : Slc))]⟩ w37 fun e38 w39 =>
        ∃ e40 : Value, e38 = .returned e40 ∧
        Calls Tryd.prog fn_tidewaternum_Num ⟨[e40]⟩ w39 fun e41 w42 =>
        ∃ n43 : Int, e41 = .returned (Value.int .i64 n43) ∧
        BIf (decide (n43 = (9 : Int))) (
          Calls Tryd.prog fn_unit_Unit_Tail ⟨[(Value.pointer p16)]⟩ w42 fun e44 w45 =>
          ∃ n46 : Int, e44 = .returned (Value.int .i64 n46) ∧
          K (Value.bool (decide (n46 = (4 : Int)))) w45) (
          K (Value.bool false) w42)) (
        K (Value.bool false) w32)))

theorem tidewaterlaw09_alive_eq  (w : World) (K : Value → World → Prop) : tidewaterlaw09_alive  w K = denF Tryd.prog callB Tryd.f4 (.two .none (.two .none (.cut [] [0, 8, 9, 10, 11, 12, 13] .none (.two .none (.cut [] [0, 19, 20, 21, 22, 23, 24] .none .none))))) [] w K := by kernel_rfl
theorem tidewaterlaw09_alive_ok  {w : World} {R : Ending → World → Prop} (h : tidewaterlaw09_alive  w fun v w' => R (.returned v) w') : Calls Tryd.prog fn_tidewaterlaw09_alive ⟨[]⟩ w R :=
  calls_of_den callB_ok mixed Tryd.func4 (tidewaterlaw09_alive_eq  w _ ▸ h)

/-- (tidewater/tidewaterlaw09.Act).page -/
def tidewaterlaw09_Act_page (a1 : Int) (a2 : Int) (a3 : Int) (a4 : Int) (a5 : Int) (w : World) (K : Value → World → Prop) : Prop :=
  newS w (.cells ⟨[(Value.int .i64 a1), (Value.int .i64 a2), (Value.int .i64 a3), (Value.int .i64 a4), (Value.int .u8 a5)]⟩ 31) fun r6 w7 =>
  ∃ n8 : Int, World.cell? w7 (⟨r6, 3, none⟩ : Addr) = some (Value.int .i64 n8) ∧
  ∃ J9 : (Int) → World → Prop,
  (
    BIf (decide (n8 < (0 : Int))) (
      J9 ((2050 : Int)) w7) (
      BIf (decide ((2050 : Int) < n8)) (
        J9 ((2050 : Int)) w7) (
        J9 (n8) w7))) ∧ (
  ∀ n10 : Int, ∀ w11 : World, J9 n10 w11 → ∀ u12 u13 u14 u15 u16 u17 : Value,
    0 ≤ n10 ∧ n10 ≤ n10 ∧ n10 ≤ 2 ^ 30 ∧
    newS w11 (.cells ⟨repl (Int.toNat n10) [(Value.int .u8 (0 : Int))]⟩ 5) fun r18 w19 =>
    ∃ (I20 : (Int) → World → Prop) (mu21 : (Int) → World → Nat), I20 ((0 : Int)) w19 ∧ (
    ∀ i22 : Int, ∀ w23 : World, I20 i22 w23 → ∀ u24 u25 u26 u27 u28 u29 u30 u31 u32 : Value,
      BIf (decide (i22 < (((Int.toNat n10) : Nat) : Int))) (
        ∃ n33 : Int, World.cell? w23 (⟨r6, 4, none⟩ : Addr) = some (Value.int .u8 n33) ∧
        0 ≤ i22 ∧ i22 < (((Int.toNat n10) : Nat) : Int) ∧
        canW w23 (Addr.add (⟨r18, 0, none⟩ : Addr) ((Int.toNat i22) * 1)) 1 ∧ ∀ w34 : World, w34 = World.setCell w23 (Addr.add (⟨r18, 0, none⟩ : Addr) ((Int.toNat i22) * 1)) (Value.int .u8 n33) →
        inR .i64 (i22 + (1 : Int)) ∧
        (I20 ((i22 + (1 : Int))) w34 ∧ mu21 ((i22 + (1 : Int))) w34 < mu21 i22 w23)) (
        K (Slc.v (⟨(some (⟨r18, 0, none⟩ : Addr)), (Int.toNat n10), (Int.toNat n10)⟩ : Slc)) w23)))

theorem tidewaterlaw09_Act_page_eq (a1 : Int) (a2 : Int) (a3 : Int) (a4 : Int) (a5 : Int) (w : World) (K : Value → World → Prop) : tidewaterlaw09_Act_page a1 a2 a3 a4 a5 w K = denF Tryd.prog callB Tryd.f8 (.two .none (.two .none (.cut [(3, (Sh.int .i64))] [8, 9, 10, 11, 12, 13] .none (.two .none (.two (.two .none (.one (.loop [(18, (Sh.int .i64))] [5, 19, 20, 21, 22, 23, 24, 25, 26] .none))) .none))))) [(Value.agg ⟨[(Value.int .i64 a1), (Value.int .i64 a2), (Value.int .i64 a3), (Value.int .i64 a4), (Value.int .u8 a5)]⟩)] w K := by kernel_rfl
theorem tidewaterlaw09_Act_page_ok (a1 : Int) (a2 : Int) (a3 : Int) (a4 : Int) (a5 : Int) {w : World} {R : Ending → World → Prop} (h : tidewaterlaw09_Act_page a1 a2 a3 a4 a5 w fun v w' => R (.returned v) w') : Calls Tryd.prog fn_tidewaterlaw09_Act_page ⟨[(Value.agg ⟨[(Value.int .i64 a1), (Value.int .i64 a2), (Value.int .i64 a3), (Value.int .i64 a4), (Value.int .u8 a5)]⟩)]⟩ w R :=
  calls_of_den callB_ok mixed Tryd.func8 (tidewaterlaw09_Act_page_eq a1 a2 a3 a4 a5 w _ ▸ h)

/-- tidewater/tidewaterlaw09.begin -/
def tidewaterlaw09_begin (n1 : Int) (w : World) (K : Value → World → Prop) : Prop :=
  0 ≤ (IntKind.wrap .u64 n1) ∧ 0 < (4 : Int) ∧
  inR .i64 ((1 : Int) + (IntKind.wrap .i64 ((IntKind.wrap .u64 n1) % (4 : Int)))) ∧
  inR .i64 ((64 : Int) * ((1 : Int) + (IntKind.wrap .i64 ((IntKind.wrap .u64 n1) % (4 : Int))))) ∧
  Calls Tryd.prog fn_disk_New ⟨[(Value.int .i64 ((64 : Int) * ((1 : Int) + (IntKind.wrap .i64 ((IntKind.wrap .u64 n1) % (4 : Int))))))]⟩ w fun e2 w3 =>
  ∃ p4 : Option Addr, ∃ e5 : Value, e2 = .returned (Value.tuple ⟨[(Value.pointer p4), e5]⟩) ∧
  isI e5 ∧
  BIf (!isNilI e5) (
    K (Value.tuple ⟨[(Value.pointer none), (Value.pointer none), (Value.pointer none)]⟩) w3) (
    Calls Tryd.prog fn_unit_Open ⟨[(Value.pointer p4)]⟩ w3 fun e6 w7 =>
    ∃ p8 : Option Addr, ∃ e9 : Value, e6 = .returned (Value.tuple ⟨[(Value.pointer p8), e9]⟩) ∧
    isI e9 ∧
    BIf (!isNilI e9) (
      K (Value.tuple ⟨[(Value.pointer none), (Value.pointer none), (Value.pointer none)]⟩) w7) (
      Calls Tryd.prog fn_tidewaterref09_New ⟨[(Value.int .i64 ((1 : Int) + (IntKind.wrap .i64 ((IntKind.wrap .u64 n1) % (4 : Int)))))]⟩ w7 fun e10 w11 =>
      ∃ p12 : Option Addr, e10 = .returned (Value.pointer p12) ∧
      K (Value.tuple ⟨[(Value.pointer p4), (Value.pointer p8), (Value.pointer p12)]⟩) w11))

theorem tidewaterlaw09_begin_eq (n1 : Int) (w : World) (K : Value → World → Prop) : tidewaterlaw09_begin n1 w K = denF Tryd.prog callB Tryd.f5 .none [(Value.int .i64 n1)] w K := by kernel_rfl
theorem tidewaterlaw09_begin_ok (n1 : Int) {w : World} {R : Ending → World → Prop} (h : tidewaterlaw09_begin n1 w fun v w' => R (.returned v) w') : Calls Tryd.prog fn_tidewaterlaw09_begin ⟨[(Value.int .i64 n1)]⟩ w R :=
  calls_of_den callB_ok mixed Tryd.func5 (tidewaterlaw09_begin_eq n1 w _ ▸ h)

/-- tidewater/tidewaterlaw09.UnitOnce -/
def tidewaterlaw09_UnitOnce (list1 : Slc) (at2 : Int) (w : World) (K : Value → World → Prop) : Prop :=
  Calls Tryd.prog fn_tidewaterlaw09_alive ⟨[]⟩ w fun e3 w4 =>
  ∃ b5 : Bool, e3 = .returned (Value.bool b5) ∧
  BIf (!b5) (
    K (Value.bool false) w4) (
    BIf (decide ((60 : Int) < ((list1.l : Nat) : Int))) (
      K (Value.bool true) w4) (
      Calls Tryd.prog fn_tidewaterlaw09_begin ⟨[(Value.int .i64 (3 : Int))]⟩ w4 fun e6 w7 =>
      ∃ p8 : Option Addr, ∃ p9 : Option Addr, ∃ p10 : Option Addr, e6 = .returned (Value.tuple ⟨[(Value.pointer p8), (Value.pointer p9), (Value.pointer p10)]⟩) ∧
      ∃ J11 : World → Prop,
      (
        BIf (Option.isNone (p8 : Option Addr)) (
          K (Value.bool false) w7) (
          BIf (Option.isNone (p9 : Option Addr)) (
            K (Value.bool false) w7) (
            J11 w7))) ∧ (
      ∀ w12 : World, J11 w12 → ∀ u13 u14 u15 u16 u17 u18 u19 : Value,
        0 ≤ (IntKind.wrap .u64 at2) ∧ 0 < (14 : Int) ∧
        ∃ (I20 : (Option Addr) → (List UInt8) → (Bool) → (Int) → (Int) → World → Prop) (mu21 : (Option Addr) → (List UInt8) → (Bool) → (Int) → (Int) → World → Nat), I20 (p9) (([] : List UInt8)) (false) ((0 : Int)) ((0 : Int)) w12 ∧ (
        ∀ u22 : Option Addr, ∀ seen23 : List UInt8, ∀ trimmed24 : Bool, ∀ top25 : Int, ∀ i26 : Int, ∀ w27 : World, I20 u22 seen23 trimmed24 top25 i26 w27 → ∀ u28 u29 u30 u31 u32 u33 u34 u35 u36 u37 u38 u39 u40 u41 u42 u43 u44 u45 u46 u47 u48 u49 u50 u51 u52 u53 u54 u55 u56 u57 u58 u59 u60 u61 u62 u63 u64 u65 u66 u67 u68 u69 u70 u71 u72 u73 u74 u75 u76 u77 u78 u79 u80 u81 u82 u83 u84 u85 u86 u87 u88 u89 u90 u91 u92 u93 u94 u95 u96 u97 u98 u99 u100 u101 u102 u103 u104 u105 u106 u107 u108 u109 u110 u111 u112 u113 u114 u115 u116 u117 u118 u119 u120 u121 u122 u123 u124 u125 u126 u127 u128 u129 u130 u131 u132 u133 u134 u135 u136 u137 u138 u139 u140 u141 u142 u143 u144 u145 u146 u147 u148 u149 u150 u151 u152 u153 u154 u155 u156 u157 u158 u159 u160 u161 u162 u163 u164 u165 u166 : Value,
          BIf (decide (i26 < ((list1.l : Nat) : Int))) (
            needSome list1.p fun a167 =>
            0 ≤ i26 ∧ i26 < ((list1.l : Nat) : Int) ∧
            ∃ n168 : Int, ∃ n169 : Int, ∃ n170 : Int, ∃ n171 : Int, ∃ n172 : Int, rowAt w27 (Addr.add a167 ((Int.toNat i26) * 5)) 0 [(Value.int .i64 n168), (Value.int .i64 n169), (Value.int .i64 n170), (Value.int .i64 n171), (Value.int .u8 n172)] ∧
            newS w27 (.cells ⟨[(Value.int .i64 (0 : Int)), (Value.int .i64 (0 : Int)), (Value.int .i64 (0 : Int)), (Value.int .i64 (0 : Int)), (Value.int .u8 (0 : Int))]⟩ 31) fun r173 w174 =>
            canW w174 (⟨r173, 0, none⟩ : Addr) 5 ∧ ∀ w175 : World, w175 = setCells w174 (⟨r173, 0, none⟩ : Addr) 0 [(Value.int .i64 n168), (Value.int .i64 n169), (Value.int .i64 n170), (Value.int .i64 n171), (Value.int .u8 n172)] →
            Calls Tryd.prog fn_unit_Unit_Epoch ⟨[(Value.pointer u22)]⟩ w175 fun e176 w177 =>
            ∃ n178 : Int, e176 = .returned (Value.int .i64 n178) ∧
            ∃ J179 : (Option Addr) → (Value) → World → Prop,
            (
              ∃ n180 : Int, World.cell? w177 (⟨r173, 0, none⟩ : Addr) = some (Value.int .i64 n180) ∧
              BIf (decide (n180 = (0 : Int))) (
                ∃ n181 : Int, World.cell? (World.drew w177) (⟨r173, 1, none⟩ : Addr) = some (Value.int .i64 n181) ∧
                ∃ n182 : Int, World.cell? (World.drew w177) (⟨r173, 2, none⟩ : Addr) = some (Value.int .i64 n182) ∧
                ∃ n183 : Int, ∃ n184 : Int, ∃ n185 : Int, ∃ n186 : Int, ∃ n187 : Int, rowAt (World.drew w177) (⟨r173, 0, none⟩ : Addr) 0 [(Value.int .i64 n183), (Value.int .i64 n184), (Value.int .i64 n185), (Value.int .i64 n186), (Value.int .u8 n187)] ∧
                Calls Tryd.prog fn_tidewaterlaw09_Act_page ⟨[(Value.agg ⟨[(Value.int .i64 n183), (Value.int .i64 n184), (Value.int .i64 n185), (Value.int .i64 n186), (Value.int .u8 n187)]⟩)]⟩ (World.drew w177) fun e188 w189 =>
                ∃ s190 : Slc, e188 = .returned (Slc.v s190) ∧
                (∃ n191 : Int, World.cell? w189 (⟨r173, 2, none⟩ : Addr) = some (Value.int .i64 n191) ∧
                (Value.int .i64 n191) = (Value.int .i64 n182)) ∧
                (∃ n192 : Int, World.cell? w189 (⟨r173, 1, none⟩ : Addr) = some (Value.int .i64 n192) ∧
                (Value.int .i64 n192) = (Value.int .i64 n181)) ∧
                Calls Tryd.prog fn_unit_Unit_Write ⟨[(Value.pointer u22), (Value.int .i64 n181), (Value.int .i64 n182), (Slc.v s190)]⟩ w189 fun e193 w194 =>
                ∃ e195 : Value, e193 = .returned e195 ∧
                J179 (u22) (e195) w194) (
                BIf (decide (n180 = (2 : Int))) (
                  ∃ n196 : Int, World.cell? w177 (⟨r173, 1, none⟩ : Addr) = some (Value.int .i64 n196) ∧
                  ∃ n197 : Int, World.cell? w177 (⟨r173, 2, none⟩ : Addr) = some (Value.int .i64 n197) ∧
                  Calls Tryd.prog fn_unit_Unit_Trim ⟨[(Value.pointer u22), (Value.int .i64 n196), (Value.int .i64 n197)]⟩ w177 fun e198 w199 =>
                  ∃ e200 : Value, e198 = .returned e200 ∧
                  J179 (u22) (e200) w199) (
                  BIf (decide (n180 = (3 : Int))) (
                    ∃ n201 : Int, World.cell? w177 (⟨r173, 1, none⟩ : Addr) = some (Value.int .i64 n201) ∧
                    Calls Tryd.prog fn_unit_Unit_Seal ⟨[(Value.pointer u22), (Value.int .i64 n201)]⟩ w177 fun e202 w203 =>
                    ∃ n204 : Int, ∃ e205 : Value, e202 = .returned (Value.tuple ⟨[(Value.int .i64 n204), e205]⟩) ∧
                    J179 (u22) (e205) w203) (
                    Calls Tryd.prog fn_unit_Open ⟨[(Value.pointer p8)]⟩ w177 fun e206 w207 =>
                    ∃ p208 : Option Addr, ∃ e209 : Value, e206 = .returned (Value.tuple ⟨[(Value.pointer p208), e209]⟩) ∧
                    isI e209 ∧
                    BIf (!isNilI e209) (
                      K (Value.bool false) w207) (
                      Calls Tryd.prog fn_unit_Unit_Epoch ⟨[(Value.pointer p208)]⟩ w207 fun e210 w211 =>
                      ∃ n212 : Int, e210 = .returned (Value.int .i64 n212) ∧
                      BIf (!decide (n212 = n178)) (
                        K (Value.bool false) w211) (
                        J179 (p208) (e209) w211)))))) ∧ (
            ∀ u213 : Option Addr, ∀ err214 : Value, ∀ w215 : World, J179 u213 err214 w215 → ∀ u216 u217 u218 u219 u220 u221 u222 u223 u224 u225 u226 u227 u228 u229 u230 u231 u232 u233 u234 u235 u236 u237 u238 u239 u240 u241 u242 u243 u244 u245 u246 u247 u248 u249 u250 u251 u252 u253 u254 u255 u256 u257 u258 : Value,
              ∃ J259 : World → Prop,
              (
                ∃ n260 : Int, World.cell? w215 (⟨r173, 0, none⟩ : Addr) = some (Value.int .i64 n260) ∧
                BIf (decide ((0 : Int) ≤ n260)) (
                  ∃ n261 : Int, World.cell? w215 (⟨r173, 0, none⟩ : Addr) = some (Value.int .i64 n261) ∧
                  BIf (decide (n261 ≤ (3 : Int))) (
                    ∃ n262 : Int, World.cell? w215 (⟨r173, 0, none⟩ : Addr) = some (Value.int .i64 n262) ∧
                    BIf (!decide (n262 = (1 : Int))) (
                      ∃ n263 : Int, World.cell? w215 (⟨r173, 1, none⟩ : Addr) = some (Value.int .i64 n263) ∧
                      BIf (decide (n263 < n178)) (
                        isI err214 ∧
                        BIf (isNilI err214) (
                          K (Value.bool false) w215) (
                          Calls Tryd.prog fn_unit_Unit_Epoch ⟨[(Value.pointer u213)]⟩ w215 fun e264 w265 =>
                          ∃ n266 : Int, e264 = .returned (Value.int .i64 n266) ∧
                          BIf (decide (n266 < n178)) (
                            K (Value.bool false) w265) (
                            Calls Tryd.prog fn_unit_Unit_Tail ⟨[(Value.pointer u213)]⟩ w265 fun e267 w268 =>
                            ∃ n269 : Int, e267 = .returned (Value.int .i64 n269) ∧
                            BIf (decide (n269 < top25)) (
                              K (Value.bool false) w268) (
                              J259 w268)))) (
                        Calls Tryd.prog fn_unit_Unit_Epoch ⟨[(Value.pointer u213)]⟩ w215 fun e270 w271 =>
                        ∃ n272 : Int, e270 = .returned (Value.int .i64 n272) ∧
                        BIf (decide (n272 < n178)) (
                          K (Value.bool false) w271) (
                          Calls Tryd.prog fn_unit_Unit_Tail ⟨[(Value.pointer u213)]⟩ w271 fun e273 w274 =>
                          ∃ n275 : Int, e273 = .returned (Value.int .i64 n275) ∧
                          BIf (decide (n275 < top25)) (
                            K (Value.bool false) w274) (
                            J259 w274)))) (
                      Calls Tryd.prog fn_unit_Unit_Epoch ⟨[(Value.pointer u213)]⟩ w215 fun e276 w277 =>
                      ∃ n278 : Int, e276 = .returned (Value.int .i64 n278) ∧
                      BIf (decide (n278 < n178)) (
                        K (Value.bool false) w277) (
                        Calls Tryd.prog fn_unit_Unit_Tail ⟨[(Value.pointer u213)]⟩ w277 fun e279 w280 =>
                        ∃ n281 : Int, e279 = .returned (Value.int .i64 n281) ∧
                        BIf (decide (n281 < top25)) (
                          K (Value.bool false) w280) (
                          J259 w280)))) (
                    Calls Tryd.prog fn_unit_Unit_Epoch ⟨[(Value.pointer u213)]⟩ w215 fun e282 w283 =>
                    ∃ n284 : Int, e282 = .returned (Value.int .i64 n284) ∧
                    BIf (decide (n284 < n178)) (
                      K (Value.bool false) w283) (
                      Calls Tryd.prog fn_unit_Unit_Tail ⟨[(Value.pointer u213)]⟩ w283 fun e285 w286 =>
                      ∃ n287 : Int, e285 = .returned (Value.int .i64 n287) ∧
                      BIf (decide (n287 < top25)) (
                        K (Value.bool false) w286) (
                        J259 w286)))) (
                  Calls Tryd.prog fn_unit_Unit_Epoch ⟨[(Value.pointer u213)]⟩ w215 fun e288 w289 =>
                  ∃ n290 : Int, e288 = .returned (Value.int .i64 n290) ∧
                  BIf (decide (n290 < n178)) (
                    K (Value.bool false) w289) (
                    Calls Tryd.prog fn_unit_Unit_Tail ⟨[(Value.pointer u213)]⟩ w289 fun e291 w292 =>
                    ∃ n293 : Int, e291 = .returned (Value.int .i64 n293) ∧
                    BIf (decide (n293 < top25)) (
                      K (Value.bool false) w292) (
                      J259 w292)))) ∧ (
              ∀ w294 : World, J259 w294 → ∀ u295 u296 u297 u298 u299 u300 u301 u302 u303 u304 u305 u306 u307 u308 u309 u310 u311 u312 u313 u314 u315 u316 u317 u318 u319 u320 u321 u322 u323 u324 u325 u326 u327 u328 u329 u330 : Value,
                Calls Tryd.prog fn_unit_Unit_Tail ⟨[(Value.pointer u213)]⟩ w294 fun e331 w332 =>
                ∃ n333 : Int, e331 = .returned (Value.int .i64 n333) ∧
                Calls Tryd.prog fn_unit_Unit_Epoch ⟨[(Value.pointer u213)]⟩ w332 fun e334 w335 =>
                ∃ n336 : Int, e334 = .returned (Value.int .i64 n336) ∧
                Calls Tryd.prog fn_unit_Unit_Read ⟨[(Value.pointer u213), (Value.int .i64 n336), (Value.int .i64 (IntKind.wrap .i64 ((IntKind.wrap .u64 at2) % (14 : Int))))]⟩ w335 fun e337 w338 =>
                ∃ s339 : Slc, ∃ e340 : Value, e337 = .returned (Value.tuple ⟨[(Slc.v s339), e340]⟩) ∧
                ∃ J341 : (Bool) → World → Prop,
                (
                  isI e340 ∧
                  BIf (isNilI e340) (
                    BIf trimmed24 (
                      J341 (true) w338) (
                      BIf (!decide (seen23 = ([] : List UInt8))) (
                        ∃ t342 : List UInt8, bytesAt w338 s339 t342 ∧
                        BIf (!decide (seen23 = t342)) (
                          J341 (true) w338) (
                          J341 ((decide (((s339.l : Nat) : Int) = (0 : Int)))) w338)) (
                        J341 ((decide (((s339.l : Nat) : Int) = (0 : Int)))) w338))) (
                    J341 (false) w338)) ∧ (
                ∀ x343 : Bool, ∀ w344 : World, J341 x343 w344 → ∀ u345 u346 u347 u348 u349 u350 u351 u352 u353 u354 u355 u356 u357 u358 u359 u360 u361 u362 u363 u364 : Value,
                  BIf x343 (
                    K (Value.bool false) w344) (
                    isI e340 ∧
                    BIf (isNilI e340) (
                      ∃ t365 : List UInt8, bytesAt w344 s339 t365 ∧
                      inR .i64 (i26 + (1 : Int)) ∧
                      (I20 (u213) (t365) (trimmed24) (n333) ((i26 + (1 : Int))) w344 ∧ mu21 (u213) (t365) (trimmed24) (n333) ((i26 + (1 : Int))) w344 < mu21 u22 seen23 trimmed24 top25 i26 w27)) (
                      Calls Tryd.prog fn_tidewaternum_Num ⟨[e340]⟩ w344 fun e366 w367 =>
                      ∃ n368 : Int, e366 = .returned (Value.int .i64 n368) ∧
                      BIf (decide (n368 = (11 : Int))) (
                        inR .i64 (i26 + (1 : Int)) ∧
                        (I20 (u213) (seen23) (true) (n333) ((i26 + (1 : Int))) w367 ∧ mu21 (u213) (seen23) (true) (n333) ((i26 + (1 : Int))) w367 < mu21 u22 seen23 trimmed24 top25 i26 w27)) (
                        Calls Tryd.prog fn_tidewaternum_Num ⟨[e340]⟩ w367 fun e369 w370 =>
                        ∃ n371 : Int, e369 = .returned (Value.int .i64 n371) ∧
                        BIf (!decide (n371 = (10 : Int))) (
                          K (Value.bool false) w370) (
                          BIf (!decide (seen23 = ([] : List UInt8))) (
                            K (Value.bool false) w370) (
                            BIf trimmed24 (
                              K (Value.bool false) w370) (
                              inR .i64 (i26 + (1 : Int)) ∧
                              (I20 (u213) (seen23) (trimmed24) (n333) ((i26 + (1 : Int))) w370 ∧ mu21 (u213) (seen23) (trimmed24) (n333) ((i26 + (1 : Int))) w370 < mu21 u22 seen23 trimmed24 top25 i26 w27))))))))))) (
            K (Value.bool true) w27)))))

theorem tidewaterlaw09_UnitOnce_eq (list1 : Slc) (at2 : Int) (w : World) (K : Value → World → Prop) : tidewaterlaw09_UnitOnce list1 at2 w K = denF Tryd.prog callB Tryd.f3 (.two .none (.two .none (.two .none (.two .none (.cut [] [4, 26, 27, 28, 29, 30, 31] .none (.two .none (.two .none (.two (.two .none (.one (.loop [(6, Sh.ptr), (8, Sh.str), (9, Sh.bool), (10, (Sh.int .i64)), (38, (Sh.int .i64))] [4, 12, 13, 14, 15, 39, 40, 41, 42, 43, 44, 45, 46, 47, 48, 49, 50, 51, 52, 53, 54, 55, 56, 57, 58, 59, 60, 61, 62, 63, 64, 65, 66, 67, 68, 69, 70, 71, 72, 73, 74, 75, 76, 77, 78, 79, 80, 81, 82, 83, 84, 85, 86, 87, 88, 89, 90, 91, 92, 93, 94, 95, 96, 97, 98, 99, 100, 101, 102, 103, 104, 105, 106, 107, 108, 109, 110, 111, 112, 113, 114, 115, 116, 117, 118, 119, 120, 121, 122, 123, 124, 125, 126, 127, 128, 129, 130, 131, 132, 133, 134, 135, 136, 137, 138, 139, 140, 141, 142, 143, 144, 145, 146, 147, 148, 149, 150, 151, 152, 153, 154, 155, 156, 157, 158, 159, 160, 161, 162, 163, 164, 165, 166, 167, 168, 169, 170, 171, 172] (.two .none (.two .none (.two (.one (.two .none (.two .none (.two .none (.cut [(6, Sh.ptr), (14, Sh.any)] [4, 44, 45, 46, 47, 48, 49, 50, 51, 52, 53, 54, 55, 56, 57, 58, 59, 60, 61, 62, 63, 64, 65, 66, 67, 68, 69, 70, 71, 72, 73, 74, 75, 76, 77, 78, 79, 80, 81, 82, 83, 84, 85] .none (.cut [] [4, 86, 87, 88, 89, 90, 91, 92, 93, 94, 95, 96, 97, 98, 99, 100, 101, 102, 103, 104, 105, 106, 107, 108, 109, 110, 111, 112, 113, 114, 115, 116, 117, 118, 119, 120] .none (.two .none (.two .none (.one (.cut [(131, Sh.bool)] [132, 133, 134, 135, 136, 137, 138, 139, 140, 141, 142, 143, 144, 145, 146, 147, 148, 149, 150, 151] .none .none)))))))))) .none)))))) .none)))))))) [(Slc.v list1), (Value.int .i64 at2)] w K := by kernel_rfl
theorem tidewaterlaw09_UnitOnce_ok (list1 : Slc) (at2 : Int) {w : World} {R : Ending → World → Prop} (h : tidewaterlaw09_UnitOnce list1 at2 w fun v w' => R (.returned v) w') : Calls Tryd.prog fn_tidewaterlaw09_UnitOnce ⟨[(Slc.v list1), (Value.int .i64 at2)]⟩ w R :=
  calls_of_den callB_ok mixed Tryd.func3 (tidewaterlaw09_UnitOnce_eq list1 at2 w _ ▸ h)

end Go.D
