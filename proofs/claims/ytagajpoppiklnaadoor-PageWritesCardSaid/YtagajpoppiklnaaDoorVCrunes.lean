/-
  WHAT IS PROVED: verification conditions of functions of this program, each with its soundness. No further conditions.
-/
import Derived.Test.YtagajpoppiklnaaDoorBase
set_option linter.unusedSimpArgs false
set_option maxRecDepth 100000
set_option linter.unusedVariables false
namespace Go.D
open Go Go.Proofs
/-- tidewater/runes.Right -/
def runes_Right (s1 : List UInt8) (w : World) (K : Value → World → Prop) : Prop :=
  newS w (.stringIter ⟨⟨s1⟩⟩ 0) fun r2 w3 =>
  ∃ (I4 : World → Prop) (mu5 : World → Nat), I4 w3 ∧ (
  ∀ w6 : World, I4 w6 → ∀ u7 u8 u9 u10 u11 u12 u13 u14 u15 u16 u17 u18 u19 u20 u21 u22 u23 u24 u25 u26 u27 u28 u29 u30 : Value,
    ∃ (s31 : List UInt8) (pos32 : Nat), (World.heap w6)[r2]? = some (.stringIter ⟨⟨s31⟩⟩ pos32) ∧
    BIf (decide (pos32 < List.length s31)) (
      ∀ w33 : World, w33 = setObjW w6 r2 (.stringIter ⟨⟨s31⟩⟩ (pos32 + (decS s31 pos32).2)) →
      BIf (decide ((((decS s31 pos32).1 : Nat) : Int) = (65533 : Int))) (
        inR .i64 ((((List.length s1) : Nat) : Int) - ((pos32 : Nat) : Int)) ∧
        BIf (decide (((((List.length s1) : Nat) : Int) - ((pos32 : Nat) : Int)) < (3 : Int))) (
          K (Value.bool false) w33) (
          inR .i64 (((pos32 : Nat) : Int) + (3 : Int)) ∧
          0 ≤ ((pos32 : Nat) : Int) ∧ ((pos32 : Nat) : Int) ≤ (((pos32 : Nat) : Int) + (3 : Int)) ∧ (((pos32 : Nat) : Int) + (3 : Int)) ≤ (((List.length s1) : Nat) : Int) ∧
          BIf (!decide ((List.drop pos32 (List.take (Int.toNat (((pos32 : Nat) : Int) + (3 : Int))) s1)) = ([239, 191, 189] : List UInt8))) (
            K (Value.bool false) w33) (
            (I4 w33 ∧ mu5 w33 < mu5 w6)))) (
        (I4 w33 ∧ mu5 w33 < mu5 w6))) (
      K (Value.bool true) w6))

theorem runes_Right_eq (s1 : List UInt8) (w : World) (K : Value → World → Prop) : runes_Right s1 w K = denF Tryd.prog callB Tryd.f85 (.two .none (.two (.two .none (.one (.loop [] [2, 3, 4, 7, 8, 9, 10, 11, 12, 13, 14, 15, 16, 17, 18, 19, 20, 21, 22, 23, 24, 25, 26, 27] .none))) .none)) [(strV s1)] w K := by kernel_rfl
theorem runes_Right_ok (s1 : List UInt8) {w : World} {R : Ending → World → Prop} (h : runes_Right s1 w fun v w' => R (.returned v) w') : Calls Tryd.prog fn_runes_Right ⟨[(strV s1)]⟩ w R :=
  calls_of_den callB_ok mixed Tryd.func85 (runes_Right_eq s1 w _ ▸ h)

/-- tidewater/runes.Count -/
def runes_Count (s1 : List UInt8) (w : World) (K : Value → World → Prop) : Prop :=
  Calls Tryd.prog fn_runes_Right ⟨[(strV s1)]⟩ w fun e2 w3 =>
  ∃ b4 : Bool, e2 = .returned (Value.bool b4) ∧
  BIf (!b4) (
    K (Value.int .i64 (-1 : Int)) w3) (
    newS w3 (.stringIter ⟨⟨s1⟩⟩ 0) fun r5 w6 =>
    ∃ (I7 : (Int) → World → Prop) (mu8 : (Int) → World → Nat), I7 ((0 : Int)) w6 ∧ (
    ∀ n9 : Int, ∀ w10 : World, I7 n9 w10 → ∀ u11 u12 u13 u14 : Value,
      ∃ (s15 : List UInt8) (pos16 : Nat), (World.heap w10)[r5]? = some (.stringIter ⟨⟨s15⟩⟩ pos16) ∧
      BIf (decide (pos16 < List.length s15)) (
        ∀ w17 : World, w17 = setObjW w10 r5 (.stringIter ⟨⟨s15⟩⟩ (pos16 + (decS s15 pos16).2)) →
        inR .i64 (n9 + (1 : Int)) ∧
        (I7 ((n9 + (1 : Int))) w17 ∧ mu8 ((n9 + (1 : Int))) w17 < mu8 n9 w10)) (
        K (Value.int .i64 n9) w10)))

theorem runes_Count_eq (s1 : List UInt8) (w : World) (K : Value → World → Prop) : runes_Count s1 w K = denF Tryd.prog callB Tryd.f84 (.two .none (.two .none (.two .none (.two (.two .none (.one (.loop [(3, (Sh.int .i64))] [9, 10, 11, 12] .none))) .none)))) [(strV s1)] w K := by kernel_rfl
theorem runes_Count_ok (s1 : List UInt8) {w : World} {R : Ending → World → Prop} (h : runes_Count s1 w fun v w' => R (.returned v) w') : Calls Tryd.prog fn_runes_Count ⟨[(strV s1)]⟩ w R :=
  calls_of_den callB_ok mixed Tryd.func84 (runes_Count_eq s1 w _ ▸ h)

/-- tidewater/runes.Key -/
def runes_Key (s1 : List UInt8) (w : World) (K : Value → World → Prop) : Prop :=
  Calls Tryd.prog fn_runes_Count ⟨[(strV s1)]⟩ w fun e2 w3 =>
  ∃ n4 : Int, e2 = .returned (Value.int .i64 n4) ∧
  BIf (decide (n4 < (0 : Int))) (
    ∃ v5 : Value, World.cell? w3 (⟨gl_ErrRune, 0, none⟩ : Addr) = some v5 ∧
    K v5 w3) (
    BIf (decide (n4 = (0 : Int))) (
      ∃ v6 : Value, World.cell? w3 (⟨gl_ErrShort, 0, none⟩ : Addr) = some v6 ∧
      K v6 w3) (
      BIf (decide ((24 : Int) < n4)) (
        ∃ v7 : Value, World.cell? w3 (⟨gl_ErrLong, 0, none⟩ : Addr) = some v7 ∧
        K v7 w3) (
        newS w3 (.stringIter ⟨⟨s1⟩⟩ 0) fun r8 w9 =>
        ∃ (I10 : World → Prop) (mu11 : World → Nat), I10 w9 ∧ (
        ∀ w12 : World, I10 w12 → ∀ u13 u14 u15 u16 u17 u18 u19 u20 u21 u22 u23 u24 : Value,
          ∃ (s25 : List UInt8) (pos26 : Nat), (World.heap w12)[r8]? = some (.stringIter ⟨⟨s25⟩⟩ pos26) ∧
          BIf (decide (pos26 < List.length s25)) (
            ∀ w27 : World, w27 = setObjW w12 r8 (.stringIter ⟨⟨s25⟩⟩ (pos26 + (decS s25 pos26).2)) →
            BIf (decide ((((decS s25 pos26).1 : Nat) : Int) < (32 : Int))) (
              ∃ v28 : Value, World.cell? w27 (⟨gl_ErrName, 0, none⟩ : Addr) = some v28 ∧
              K v28 w27) (
              BIf (decide ((((decS s25 pos26).1 : Nat) : Int) = (127 : Int))) (
                ∃ v29 : Value, World.cell? w27 (⟨gl_ErrName, 0, none⟩ : Addr) = some v29 ∧
                K v29 w27) (
                (I10 w27 ∧ mu11 w27 < mu11 w12)))) (
            K Value.nilIface w12)))))

theorem runes_Key_eq (s1 : List UInt8) (w : World) (K : Value → World → Prop) : runes_Key s1 w K = denF Tryd.prog callB Tryd.f83 (.two .none (.two .none (.two (.two .none (.one (.loop [] [2, 5, 22, 23, 24, 25, 26, 27, 28, 29, 30, 31] .none))) .none))) [(strV s1)] w K := by kernel_rfl
theorem runes_Key_ok (s1 : List UInt8) {w : World} {R : Ending → World → Prop} (h : runes_Key s1 w fun v w' => R (.returned v) w') : Calls Tryd.prog fn_runes_Key ⟨[(strV s1)]⟩ w R :=
  calls_of_den callB_ok mixed Tryd.func83 (runes_Key_eq s1 w _ ▸ h)

/-- tidewater/tidewaterref02.Runes -/
def tidewaterref02_Runes (s1 : List UInt8) (w : World) (K : Value → World → Prop) : Prop :=
  newS w (.cells ⟨[]⟩ 3) fun r2 w3 =>
  ∃ (I4 : (Slc) → (Int) → World → Prop) (mu5 : (Slc) → (Int) → World → Nat), I4 ((⟨(some (⟨r2, 0, none⟩ : Addr)), 0, 0⟩ : Slc)) ((0 : Int)) w3 ∧ (
  ∀ out6 : Slc, ∀ i7 : Int, ∀ w8 : World, I4 out6 i7 w8 → ∀ u9 u10 u11 u12 u13 u14 u15 u16 u17 u18 u19 u20 u21 u22 u23 u24 u25 u26 u27 u28 u29 u30 u31 u32 u33 u34 u35 u36 u37 u38 u39 u40 u41 u42 u43 u44 u45 u46 u47 u48 u49 u50 u51 u52 u53 u54 u55 u56 u57 u58 u59 u60 u61 u62 u63 u64 u65 u66 u67 u68 u69 u70 u71 u72 u73 u74 u75 u76 u77 u78 u79 u80 u81 u82 u83 u84 u85 u86 u87 u88 u89 u90 u91 u92 u93 u94 u95 u96 u97 u98 u99 u100 u101 u102 u103 : Value,
    BIf (decide (i7 < (((List.length s1) : Nat) : Int))) (
      0 ≤ i7 ∧ i7 < ((List.length s1 : Nat) : Int) ∧
      inR .i64 ((UInt8.toNat (List.getD s1 (Int.toNat i7) 0) : Nat) : Int) ∧
      ∃ J104 : (Int) → (Int) → (Int) → World → Prop,
      (
        BIf (decide (((UInt8.toNat (List.getD s1 (Int.toNat i7) 0) : Nat) : Int) < (128 : Int))) (
          J104 ((1 : Int)) ((0 : Int)) (((UInt8.toNat (List.getD s1 (Int.toNat i7) 0) : Nat) : Int)) (World.drew w8)) (
          ∃ J105 : (Bool) → World → Prop,
          (
            BIf (decide ((192 : Int) ≤ ((UInt8.toNat (List.getD s1 (Int.toNat i7) 0) : Nat) : Int))) (
              J105 ((decide (((UInt8.toNat (List.getD s1 (Int.toNat i7) 0) : Nat) : Int) < (224 : Int)))) (World.drew w8)) (
              J105 (false) (World.drew w8))) ∧ (
          ∀ x106 : Bool, ∀ w107 : World, J105 x106 w107 → ∀ u108 u109 u110 u111 u112 u113 : Value,
            BIf x106 (
              inR .i64 (((UInt8.toNat (List.getD s1 (Int.toNat i7) 0) : Nat) : Int) - (192 : Int)) ∧
              J104 ((2 : Int)) ((128 : Int)) ((((UInt8.toNat (List.getD s1 (Int.toNat i7) 0) : Nat) : Int) - (192 : Int))) w107) (
              ∃ J114 : (Bool) → World → Prop,
              (
                BIf (decide ((224 : Int) ≤ ((UInt8.toNat (List.getD s1 (Int.toNat i7) 0) : Nat) : Int))) (
                  J114 ((decide (((UInt8.toNat (List.getD s1 (Int.toNat i7) 0) : Nat) : Int) < (240 : Int)))) w107) (
                  J114 (false) w107)) ∧ (
              ∀ x115 : Bool, ∀ w116 : World, J114 x115 w116 → ∀ u117 u118 u119 u120 u121 u122 : Value,
                BIf x115 (
                  inR .i64 (((UInt8.toNat (List.getD s1 (Int.toNat i7) 0) : Nat) : Int) - (224 : Int)) ∧
                  J104 ((3 : Int)) ((2048 : Int)) ((((UInt8.toNat (List.getD s1 (Int.toNat i7) 0) : Nat) : Int) - (224 : Int))) w116) (
                  BIf (decide ((240 : Int) ≤ ((UInt8.toNat (List.getD s1 (Int.toNat i7) 0) : Nat) : Int))) (
                    BIf (decide (((UInt8.toNat (List.getD s1 (Int.toNat i7) 0) : Nat) : Int) < (248 : Int))) (
                      inR .i64 (((UInt8.toNat (List.getD s1 (Int.toNat i7) 0) : Nat) : Int) - (240 : Int)) ∧
                      J104 ((4 : Int)) ((65536 : Int)) ((((UInt8.toNat (List.getD s1 (Int.toNat i7) 0) : Nat) : Int) - (240 : Int))) w116) (
                      K (Value.tuple ⟨[(Slc.v (⟨none, 0, 0⟩ : Slc)), (Value.bool false)]⟩) w116)) (
                    K (Value.tuple ⟨[(Slc.v (⟨none, 0, 0⟩ : Slc)), (Value.bool false)]⟩) w116))))))) ∧ (
      ∀ n123 : Int, ∀ least124 : Int, ∀ c125 : Int, ∀ w126 : World, J104 n123 least124 c125 w126 → ∀ u127 u128 u129 u130 u131 u132 u133 u134 u135 u136 u137 u138 u139 u140 u141 u142 u143 u144 u145 u146 u147 u148 u149 u150 u151 u152 u153 u154 u155 u156 u157 u158 : Value,
        inR .i64 ((((List.length s1) : Nat) : Int) - i7) ∧
        BIf (decide (((((List.length s1) : Nat) : Int) - i7) < n123)) (
          K (Value.tuple ⟨[(Slc.v (⟨none, 0, 0⟩ : Slc)), (Value.bool false)]⟩) w126) (
          ∃ (I159 : (Int) → (Int) → World → Prop) (mu160 : (Int) → (Int) → World → Nat), I159 (c125) ((1 : Int)) w126 ∧ (
          ∀ c161 : Int, ∀ k162 : Int, ∀ w163 : World, I159 c161 k162 w163 → ∀ u164 u165 u166 u167 u168 u169 u170 u171 u172 u173 u174 u175 u176 u177 u178 u179 u180 u181 u182 u183 u184 u185 u186 u187 u188 : Value,
            BIf (decide (k162 < n123)) (
              inR .i64 (i7 + k162) ∧
              0 ≤ (i7 + k162) ∧ (i7 + k162) < ((List.length s1 : Nat) : Int) ∧
              inR .i64 ((UInt8.toNat (List.getD s1 (Int.toNat (i7 + k162)) 0) : Nat) : Int) ∧
              BIf (decide (((UInt8.toNat (List.getD s1 (Int.toNat (i7 + k162)) 0) : Nat) : Int) < (128 : Int))) (
                K (Value.tuple ⟨[(Slc.v (⟨none, 0, 0⟩ : Slc)), (Value.bool false)]⟩) w163) (
                BIf (decide ((191 : Int) < ((UInt8.toNat (List.getD s1 (Int.toNat (i7 + k162)) 0) : Nat) : Int))) (
                  K (Value.tuple ⟨[(Slc.v (⟨none, 0, 0⟩ : Slc)), (Value.bool false)]⟩) w163) (
                  inR .i64 (c161 * (64 : Int)) ∧
                  inR .i64 ((c161 * (64 : Int)) + ((UInt8.toNat (List.getD s1 (Int.toNat (i7 + k162)) 0) : Nat) : Int)) ∧
                  inR .i64 (((c161 * (64 : Int)) + ((UInt8.toNat (List.getD s1 (Int.toNat (i7 + k162)) 0) : Nat) : Int)) - (128 : Int)) ∧
                  inR .i64 (k162 + (1 : Int)) ∧
                  (I159 ((((c161 * (64 : Int)) + ((UInt8.toNat (List.getD s1 (Int.toNat (i7 + k162)) 0) : Nat) : Int)) - (128 : Int))) ((k162 + (1 : Int))) w163 ∧ mu160 ((((c161 * (64 : Int)) + ((UInt8.toNat (List.getD s1 (Int.toNat (i7 + k162)) 0) : Nat) : Int)) - (128 : Int))) ((k162 + (1 : Int))) w163 < mu160 c161 k162 w163)))) (
              BIf (decide (c161 < least124)) (
                K (Value.tuple ⟨[(Slc.v (⟨none, 0, 0⟩ : Slc)), (Value.bool false)]⟩) w163) (
                BIf (decide ((1114111 : Int) < c161)) (
                  K (Value.tuple ⟨[(Slc.v (⟨none, 0, 0⟩ : Slc)), (Value.bool false)]⟩) w163) (
                  BIf (decide ((55296 : Int) ≤ c161)) (
                    BIf (decide (c161 ≤ (57343 : Int))) (
                      K (Value.tuple ⟨[(Slc.v (⟨none, 0, 0⟩ : Slc)), (Value.bool false)]⟩) w163) (
                      newS w163 (.cells ⟨[(Value.int .i64 c161)]⟩ 3) fun r189 w190 =>
                      appendS 1 3 [(Value.int .i64 (0 : Int))] w190 out6 (.slc (⟨(some (⟨r189, 0, none⟩ : Addr)), 1, 1⟩ : Slc)) fun s191 w192 =>
                      inR .i64 (i7 + n123) ∧
                      (I4 (s191) ((i7 + n123)) w192 ∧ mu5 (s191) ((i7 + n123)) w192 < mu5 out6 i7 w8))) (
                    newS w163 (.cells ⟨[(Value.int .i64 c161)]⟩ 3) fun r193 w194 =>
                    appendS 1 3 [(Value.int .i64 (0 : Int))] w194 out6 (.slc (⟨(some (⟨r193, 0, none⟩ : Addr)), 1, 1⟩ : Slc)) fun s195 w196 =>
                    inR .i64 (i7 + n123) ∧
                    (I4 (s195) ((i7 + n123)) w196 ∧ mu5 (s195) ((i7 + n123)) w196 < mu5 out6 i7 w8))))))))) (
      K (Value.tuple ⟨[(Slc.v out6), (Value.bool true)]⟩) w8))

theorem tidewaterref02_Runes_eq (s1 : List UInt8) (w : World) (K : Value → World → Prop) : tidewaterref02_Runes s1 w K = denF Tryd.prog callB Tryd.f57 (.two .none (.two .none (.two (.two .none (.one (.loop [(4, Sh.slc), (5, (Sh.int .i64))] [2, 3, 6, 7, 8, 9, 10, 12, 13, 14, 15, 16, 17, 18, 19, 20, 21, 22, 23, 24, 25, 26, 27, 28, 29, 30, 31, 32, 33, 34, 35, 36, 37, 38, 39, 40, 41, 42, 43, 44, 45, 46, 47, 48, 49, 50, 51, 52, 53, 54, 55, 56, 57, 58, 59, 60, 61, 62, 63, 64, 65, 66, 67, 68, 69, 70, 71, 72, 73, 74, 75, 76, 77, 78, 79, 80, 81, 82, 83, 84, 85, 86, 87, 88, 89, 90, 91, 92, 93, 94, 95, 96, 97, 98, 99] (.two .none (.one (.two .none (.cut [(6, (Sh.int .i64)), (7, (Sh.int .i64)), (8, (Sh.int .i64))] [2, 3, 20, 21, 22, 23, 24, 25, 26, 27, 28, 29, 30, 31, 32, 33, 34, 35, 36, 37, 38, 39, 40, 41, 42, 43, 44, 45, 46, 47, 48, 49] (.one (.two .none (.two .none (.cut [(23, Sh.bool)] [24, 25, 26, 27, 28, 29] .none (.two .none (.cut [(32, Sh.bool)] [33, 34, 35, 36, 37, 38] .none .none)))))) (.two .none (.two (.two .none (.one (.loop [(8, (Sh.int .i64)), (9, (Sh.int .i64))] [2, 3, 10, 56, 57, 58, 59, 60, 61, 62, 63, 64, 65, 66, 67, 68, 69, 70, 71, 72, 73, 74, 75, 76, 77] .none))) .none))))))))) .none))) [(strV s1)] w K := by kernel_rfl
theorem tidewaterref02_Runes_ok (s1 : List UInt8) {w : World} {R : Ending → World → Prop} (h : tidewaterref02_Runes s1 w fun v w' => R (.returned v) w') : Calls Tryd.prog fn_tidewaterref02_Runes ⟨[(strV s1)]⟩ w R :=
  calls_of_den callB_ok mixed Tryd.func57 (tidewaterref02_Runes_eq s1 w _ ▸ h)

/-- tidewater/tidewaterref02.Key -/
def tidewaterref02_Key (s1 : List UInt8) (w : World) (K : Value → World → Prop) : Prop :=
  Calls Tryd.prog fn_tidewaterref02_Runes ⟨[(strV s1)]⟩ w fun e2 w3 =>
  ∃ s4 : Slc, ∃ b5 : Bool, e2 = .returned (Value.tuple ⟨[(Slc.v s4), (Value.bool b5)]⟩) ∧
  BIf (!b5) (
    K (Value.int .i64 (6 : Int)) w3) (
    BIf (decide (((s4.l : Nat) : Int) = (0 : Int))) (
      K (Value.int .i64 (2 : Int)) w3) (
      BIf (decide ((24 : Int) < ((s4.l : Nat) : Int))) (
        K (Value.int .i64 (3 : Int)) w3) (
        ∃ (I6 : (Int) → World → Prop) (mu7 : (Int) → World → Nat), I6 ((0 : Int)) w3 ∧ (
        ∀ i8 : Int, ∀ w9 : World, I6 i8 w9 → ∀ u10 u11 u12 u13 u14 u15 u16 u17 u18 u19 u20 u21 : Value,
          BIf (decide (i8 < ((s4.l : Nat) : Int))) (
            needSome s4.p fun a22 =>
            0 ≤ i8 ∧ i8 < ((s4.l : Nat) : Int) ∧
            ∃ n23 : Int, World.cell? w9 (Addr.add a22 ((Int.toNat i8) * 1)) = some (Value.int .i64 n23) ∧
            BIf (decide (n23 < (32 : Int))) (
              K (Value.int .i64 (7 : Int)) w9) (
              BIf (decide (n23 = (127 : Int))) (
                K (Value.int .i64 (7 : Int)) w9) (
                inR .i64 (i8 + (1 : Int)) ∧
                (I6 ((i8 + (1 : Int))) w9 ∧ mu7 ((i8 + (1 : Int))) w9 < mu7 i8 w9)))) (
            K (Value.int .i64 (0 : Int)) w9)))))

theorem tidewaterref02_Key_eq (s1 : List UInt8) (w : World) (K : Value → World → Prop) : tidewaterref02_Key s1 w K = denF Tryd.prog callB Tryd.f56 (.two .none (.two .none (.two .none (.two (.two .none (.one (.loop [(25, (Sh.int .i64))] [2, 6, 26, 27, 28, 29, 30, 31, 32, 33, 34, 35] .none))) .none)))) [(strV s1)] w K := by kernel_rfl
theorem tidewaterref02_Key_ok (s1 : List UInt8) {w : World} {R : Ending → World → Prop} (h : tidewaterref02_Key s1 w fun v w' => R (.returned v) w') : Calls Tryd.prog fn_tidewaterref02_Key ⟨[(strV s1)]⟩ w R :=
  calls_of_den callB_ok mixed Tryd.func56 (tidewaterref02_Key_eq s1 w _ ▸ h)

end Go.D
