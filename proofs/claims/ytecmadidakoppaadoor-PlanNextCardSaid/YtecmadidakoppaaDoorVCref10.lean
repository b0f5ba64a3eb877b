/-
  WHAT IS PROVED: verification conditions of functions of this program, each with its soundness. No further conditions.
-/
import Derived.Test.YtecmadidakoppaaDoorBase
set_option linter.unusedSimpArgs false
set_option maxRecDepth 100000
set_option linter.unusedVariables false
namespace Go.D
open Go Go.Proofs
/-- tidewater/tidewaterref10.Right -/
def tidewaterref10_Right (p1 : Int) (p2 : Slc) (w : World) (K : Value → World → Prop) : Prop :=
  newS w (.cells ⟨[(Value.int .i64 p1), (Slc.v p2)]⟩ 31) fun r3 w4 =>
  ∃ J5 : World → Prop,
  (
    ∃ n6 : Int, World.cell? w4 (⟨r3, 0, none⟩ : Addr) = some (Value.int .i64 n6) ∧
    BIf (decide (n6 < (0 : Int))) (
      K (Value.bool false) w4) (
      ∃ n7 : Int, World.cell? w4 (⟨r3, 0, none⟩ : Addr) = some (Value.int .i64 n7) ∧
      BIf (decide ((1073741824 : Int) < n7)) (
        K (Value.bool false) w4) (
        ∃ s8 : Slc, World.cell? w4 (⟨r3, 1, none⟩ : Addr) = some (Slc.v s8) ∧
        BIf (decide (((s8.l : Nat) : Int) < (1 : Int))) (
          K (Value.bool false) w4) (
          ∃ s9 : Slc, World.cell? w4 (⟨r3, 1, none⟩ : Addr) = some (Slc.v s9) ∧
          BIf (decide ((3 : Int) < ((s9.l : Nat) : Int))) (
            K (Value.bool false) w4) (
            J5 w4))))) ∧ (
  ∀ w10 : World, J5 w10 → ∀ u11 u12 u13 u14 u15 u16 u17 u18 u19 u20 u21 u22 u23 u24 u25 u26 u27 u28 u29 u30 u31 : Value,
    newS w10 (.cells ⟨[]⟩ 3) fun r32 w33 =>
    ∃ s34 : Slc, World.cell? w33 (⟨r3, 1, none⟩ : Addr) = some (Slc.v s34) ∧
    ∃ (I35 : (Slc) → (Int) → World → Prop) (mu36 : (Slc) → (Int) → World → Nat), I35 ((⟨(some (⟨r32, 0, none⟩ : Addr)), 0, 0⟩ : Slc)) ((0 : Int)) w33 ∧ (
    ∀ seen37 : Slc, ∀ i38 : Int, ∀ w39 : World, I35 seen37 i38 w39 → ∀ u40 u41 u42 u43 u44 u45 u46 u47 u48 u49 u50 u51 u52 u53 u54 u55 u56 u57 u58 u59 u60 u61 u62 u63 u64 u65 u66 u67 u68 u69 u70 u71 u72 u73 u74 u75 u76 : Value,
      BIf (decide (i38 < ((s34.l : Nat) : Int))) (
        needSome s34.p fun a77 =>
        0 ≤ i38 ∧ i38 < ((s34.l : Nat) : Int) ∧
        ∃ s78 : Slc, World.cell? w39 (Addr.add a77 ((Int.toNat i38) * 1)) = some (Slc.v s78) ∧
        ∃ J79 : World → Prop,
        (
          BIf (decide (((s78.l : Nat) : Int) < (1 : Int))) (
            K (Value.bool false) w39) (
            BIf (decide ((3 : Int) < ((s78.l : Nat) : Int))) (
              K (Value.bool false) w39) (
              J79 w39))) ∧ (
        ∀ w80 : World, J79 w80 → ∀ u81 u82 u83 u84 u85 u86 u87 u88 u89 : Value,
          ∃ (I90 : (Slc) → (Int) → World → Prop) (mu91 : (Slc) → (Int) → World → Nat), I90 (seen37) ((0 : Int)) w80 ∧ (
          ∀ seen92 : Slc, ∀ i93 : Int, ∀ w94 : World, I90 seen92 i93 w94 → ∀ u95 u96 u97 u98 u99 u100 u101 u102 u103 u104 u105 u106 u107 u108 u109 u110 u111 u112 u113 u114 u115 : Value,
            BIf (decide (i93 < ((s78.l : Nat) : Int))) (
              needSome s78.p fun a116 =>
              0 ≤ i93 ∧ i93 < ((s78.l : Nat) : Int) ∧
              ∃ n117 : Int, World.cell? w94 (Addr.add a116 ((Int.toNat i93) * 1)) = some (Value.int .i64 n117) ∧
              BIf (decide (n117 < (0 : Int))) (
                K (Value.bool false) w94) (
                BIf (decide ((11 : Int) < n117)) (
                  K (Value.bool false) w94) (
                  Calls Tryd.prog fn_tidewaternum_In ⟨[(Slc.v seen92), (Value.int .i64 n117)]⟩ w94 fun e118 w119 =>
                  ∃ b120 : Bool, e118 = .returned (Value.bool b120) ∧
                  BIf b120 (
                    K (Value.bool false) w119) (
                    newS w119 (.cells ⟨[(Value.int .i64 n117)]⟩ 3) fun r121 w122 =>
                    appendS 1 3 [(Value.int .i64 (0 : Int))] w122 seen92 (.slc (⟨(some (⟨r121, 0, none⟩ : Addr)), 1, 1⟩ : Slc)) fun s123 w124 =>
                    inR .i64 (i93 + (1 : Int)) ∧
                    (I90 (s123) ((i93 + (1 : Int))) w124 ∧ mu91 (s123) ((i93 + (1 : Int))) w124 < mu91 seen92 i93 w94))))) (
              inR .i64 (i38 + (1 : Int)) ∧
              (I35 (seen92) ((i38 + (1 : Int))) w94 ∧ mu36 (seen92) ((i38 + (1 : Int))) w94 < mu36 seen37 i38 w39))))) (
        K (Value.bool true) w39)))

theorem tidewaterref10_Right_eq (p1 : Int) (p2 : Slc) (w : World) (K : Value → World → Prop) : tidewaterref10_Right p1 p2 w K = denF Tryd.prog callB Tryd.f11 (.two .none (.cut [] [2, 8, 9, 10, 11, 12, 13, 14, 15, 16, 17, 18, 19, 20, 21, 22, 23, 24, 25, 26, 27] .none (.two .none (.two (.two .none (.one (.loop [(3, Sh.slc), (32, (Sh.int .i64))] [2, 5, 7, 33, 34, 35, 36, 37, 38, 39, 40, 41, 42, 43, 44, 45, 46, 47, 48, 49, 50, 51, 52, 53, 54, 55, 56, 57, 58, 59, 60, 61, 62, 63, 64, 65, 66] (.two .none (.two .none (.two (.one (.two .none (.cut [] [2, 36, 37, 38, 39, 40, 41, 42, 43] .none (.two .none (.one (.loop [(3, Sh.slc), (46, (Sh.int .i64))] [2, 7, 47, 48, 49, 50, 51, 52, 53, 54, 55, 56, 57, 58, 59, 60, 61, 62, 63, 64, 65] .none)))))) .none)))))) .none)))) [(Value.agg ⟨[(Value.int .i64 p1), (Slc.v p2)]⟩)] w K := by kernel_rfl
theorem tidewaterref10_Right_ok (p1 : Int) (p2 : Slc) {w : World} {R : Ending → World → Prop} (h : tidewaterref10_Right p1 p2 w fun v w' => R (.returned v) w') : Calls Tryd.prog fn_tidewaterref10_Right ⟨[(Value.agg ⟨[(Value.int .i64 p1), (Slc.v p2)]⟩)]⟩ w R :=
  calls_of_den callB_ok mixed Tryd.func11 (tidewaterref10_Right_eq p1 p2 w _ ▸ h)

/-- tidewater/tidewaterref10.Units -/
def tidewaterref10_Units (p1 : Int) (p2 : Slc) (w : World) (K : Value → World → Prop) : Prop :=
  newS w (.cells ⟨[(Value.int .i64 p1), (Slc.v p2)]⟩ 31) fun r3 w4 =>
  newS w4 (.cells ⟨[]⟩ 3) fun r5 w6 =>
  ∃ (I7 : (Slc) → (Int) → World → Prop) (mu8 : (Slc) → (Int) → World → Nat), I7 ((⟨(some (⟨r5, 0, none⟩ : Addr)), 0, 0⟩ : Slc)) ((0 : Int)) w6 ∧ (
  ∀ out9 : Slc, ∀ u10 : Int, ∀ w11 : World, I7 out9 u10 w11 → ∀ u12 u13 u14 u15 u16 u17 u18 u19 u20 u21 u22 u23 u24 u25 u26 u27 u28 u29 u30 u31 : Value,
    BIf (decide (u10 < (12 : Int))) (
      ∃ s32 : Slc, World.cell? w11 (⟨r3, 1, none⟩ : Addr) = some (Slc.v s32) ∧
      ∃ (I33 : (Slc) → (Int) → World → Prop) (mu34 : (Slc) → (Int) → World → Nat), I33 (out9) ((0 : Int)) w11 ∧ (
      ∀ out35 : Slc, ∀ i36 : Int, ∀ w37 : World, I33 out35 i36 w37 → ∀ u38 u39 u40 u41 u42 u43 u44 u45 u46 u47 u48 u49 : Value,
        BIf (decide (i36 < ((s32.l : Nat) : Int))) (
          needSome s32.p fun a50 =>
          0 ≤ i36 ∧ i36 < ((s32.l : Nat) : Int) ∧
          ∃ s51 : Slc, World.cell? w37 (Addr.add a50 ((Int.toNat i36) * 1)) = some (Slc.v s51) ∧
          Calls Tryd.prog fn_tidewaternum_In ⟨[(Slc.v s51), (Value.int .i64 u10)]⟩ w37 fun e52 w53 =>
          ∃ b54 : Bool, e52 = .returned (Value.bool b54) ∧
          BIf b54 (
            newS w53 (.cells ⟨[(Value.int .i64 u10)]⟩ 3) fun r55 w56 =>
            appendS 1 3 [(Value.int .i64 (0 : Int))] w56 out35 (.slc (⟨(some (⟨r55, 0, none⟩ : Addr)), 1, 1⟩ : Slc)) fun s57 w58 =>
            inR .i64 (i36 + (1 : Int)) ∧
            (I33 (s57) ((i36 + (1 : Int))) w58 ∧ mu34 (s57) ((i36 + (1 : Int))) w58 < mu34 out35 i36 w37)) (
            inR .i64 (i36 + (1 : Int)) ∧
            (I33 (out35) ((i36 + (1 : Int))) w53 ∧ mu34 (out35) ((i36 + (1 : Int))) w53 < mu34 out35 i36 w37))) (
          inR .i64 (u10 + (1 : Int)) ∧
          (I7 (out35) ((u10 + (1 : Int))) w37 ∧ mu8 (out35) ((u10 + (1 : Int))) w37 < mu8 out9 u10 w11)))) (
      K (Slc.v out9) w11))

theorem tidewaterref10_Units_eq (p1 : Int) (p2 : Slc) (w : World) (K : Value → World → Prop) : tidewaterref10_Units p1 p2 w K = denF Tryd.prog callB Tryd.f17 (.two .none (.two .none (.two (.two .none (.one (.loop [(3, Sh.slc), (4, (Sh.int .i64))] [6, 8, 9, 10, 11, 12, 13, 14, 15, 16, 17, 18, 19, 20, 21, 22, 23, 24, 25, 26] (.two .none (.two (.one (.two .none (.one (.loop [(3, Sh.slc), (15, (Sh.int .i64))] [6, 16, 17, 18, 19, 20, 21, 22, 23, 24, 25, 26] .none)))) .none))))) .none))) [(Value.agg ⟨[(Value.int .i64 p1), (Slc.v p2)]⟩)] w K := by kernel_rfl
theorem tidewaterref10_Units_ok (p1 : Int) (p2 : Slc) {w : World} {R : Ending → World → Prop} (h : tidewaterref10_Units p1 p2 w fun v w' => R (.returned v) w') : Calls Tryd.prog fn_tidewaterref10_Units ⟨[(Value.agg ⟨[(Value.int .i64 p1), (Slc.v p2)]⟩)]⟩ w R :=
  calls_of_den callB_ok mixed Tryd.func17 (tidewaterref10_Units_eq p1 p2 w _ ▸ h)

/-- tidewater/tidewaterref10.Tail -/
def tidewaterref10_Tail (p1 : Int) (p2 : Slc) (tails3 : Slc) (w : World) (K : Value → World → Prop) : Prop :=
  newS w (.cells ⟨[(Value.int .i64 p1), (Slc.v p2)]⟩ 31) fun r4 w5 =>
  ∃ s6 : Slc, World.cell? w5 (⟨r4, 1, none⟩ : Addr) = some (Slc.v s6) ∧
  ∃ (I7 : (Int) → (Int) → World → Prop) (mu8 : (Int) → (Int) → World → Nat), I7 ((0 : Int)) ((0 : Int)) w5 ∧ (
  ∀ out9 : Int, ∀ c10 : Int, ∀ w11 : World, I7 out9 c10 w11 → ∀ u12 u13 u14 u15 u16 u17 u18 u19 u20 u21 u22 u23 u24 u25 u26 u27 u28 u29 u30 u31 u32 u33 u34 u35 u36 u37 u38 u39 u40 u41 u42 u43 u44 u45 u46 u47 u48 u49 : Value,
    ∃ J50 : World → Prop,
    (
      BIf (decide (c10 < ((s6.l : Nat) : Int))) (
        BIf (decide (c10 < ((tails3.l : Nat) : Int))) (
          J50 w11) (
          K (Value.int .i64 out9) w11)) (
        K (Value.int .i64 out9) w11)) ∧ (
    ∀ w51 : World, J50 w51 → ∀ u52 u53 u54 u55 u56 u57 u58 u59 u60 : Value,
      needSome tails3.p fun a61 =>
      0 ≤ c10 ∧ c10 < ((tails3.l : Nat) : Int) ∧
      ∃ n62 : Int, World.cell? w51 (Addr.add a61 ((Int.toNat c10) * 1)) = some (Value.int .i64 n62) ∧
      ∃ J63 : (Int) → World → Prop,
      (
        BIf (decide ((4096 : Int) < n62)) (
          J63 ((4096 : Int)) w51) (
          J63 (n62) w51)) ∧ (
      ∀ t64 : Int, ∀ w65 : World, J63 t64 w65 → ∀ u66 u67 : Value,
        BIf (decide ((0 : Int) < t64)) (
          inR .i64 (t64 - (1 : Int)) ∧
          inR .i64 ((t64 - (1 : Int)) * ((s6.l : Nat) : Int)) ∧
          inR .i64 (((t64 - (1 : Int)) * ((s6.l : Nat) : Int)) + c10) ∧
          inR .i64 ((((t64 - (1 : Int)) * ((s6.l : Nat) : Int)) + c10) + (1 : Int)) ∧
          BIf (decide (out9 < ((((t64 - (1 : Int)) * ((s6.l : Nat) : Int)) + c10) + (1 : Int)))) (
            inR .i64 (t64 - (1 : Int)) ∧
            inR .i64 ((t64 - (1 : Int)) * ((s6.l : Nat) : Int)) ∧
            inR .i64 (((t64 - (1 : Int)) * ((s6.l : Nat) : Int)) + c10) ∧
            inR .i64 ((((t64 - (1 : Int)) * ((s6.l : Nat) : Int)) + c10) + (1 : Int)) ∧
            inR .i64 (c10 + (1 : Int)) ∧
            (I7 (((((t64 - (1 : Int)) * ((s6.l : Nat) : Int)) + c10) + (1 : Int))) ((c10 + (1 : Int))) w65 ∧ mu8 (((((t64 - (1 : Int)) * ((s6.l : Nat) : Int)) + c10) + (1 : Int))) ((c10 + (1 : Int))) w65 < mu8 out9 c10 w11)) (
            inR .i64 (c10 + (1 : Int)) ∧
            (I7 (out9) ((c10 + (1 : Int))) w65 ∧ mu8 (out9) ((c10 + (1 : Int))) w65 < mu8 out9 c10 w11))) (
          inR .i64 (c10 + (1 : Int)) ∧
          (I7 (out9) ((c10 + (1 : Int))) w65 ∧ mu8 (out9) ((c10 + (1 : Int))) w65 < mu8 out9 c10 w11)))))

theorem tidewaterref10_Tail_eq (p1 : Int) (p2 : Slc) (tails3 : Slc) (w : World) (K : Value → World → Prop) : tidewaterref10_Tail p1 p2 tails3 w K = denF Tryd.prog callB Tryd.f18 (.two .none (.two .none (.two .none (.two (.two .none (.one (.loop [(6, (Sh.int .i64)), (7, (Sh.int .i64))] [8, 12, 13, 14, 15, 16, 17, 18, 19, 20, 21, 22, 23, 24, 25, 26, 27, 28, 29, 30, 31, 32, 33, 34, 35, 36, 37, 38, 39, 40, 41, 42, 43, 44, 45, 46, 47, 48] (.cut [] [12, 13, 14, 15, 16, 17, 18, 19, 20] .none (.two (.one (.two .none (.cut [(8, (Sh.int .i64))] [27, 28] .none .none))) .none))))) .none)))) [(Value.agg ⟨[(Value.int .i64 p1), (Slc.v p2)]⟩), (Slc.v tails3)] w K := by kernel_rfl
theorem tidewaterref10_Tail_ok (p1 : Int) (p2 : Slc) (tails3 : Slc) {w : World} {R : Ending → World → Prop} (h : tidewaterref10_Tail p1 p2 tails3 w fun v w' => R (.returned v) w') : Calls Tryd.prog fn_tidewaterref10_Tail ⟨[(Value.agg ⟨[(Value.int .i64 p1), (Slc.v p2)]⟩), (Slc.v tails3)]⟩ w R :=
  calls_of_den callB_ok mixed Tryd.func18 (tidewaterref10_Tail_eq p1 p2 tails3 w _ ▸ h)

/-- tidewater/tidewaterref10.Replace -/
def tidewaterref10_Replace (p1 : Int) (p2 : Slc) (gone3 : Slc) (fresh4 : Int) (w : World) (K : Value → World → Prop) : Prop :=
  newS w (.cells ⟨[(Value.int .i64 p1), (Slc.v p2)]⟩ 31) fun r5 w6 =>
  newS w6 (.cells ⟨[(Value.int .i64 (0 : Int)), (Slc.v (⟨none, 0, 0⟩ : Slc))]⟩ 31) fun r7 w8 =>
  ∃ n9 : Int, ∃ s10 : Slc, rowAt w8 (⟨r5, 0, none⟩ : Addr) 0 [(Value.int .i64 n9), (Slc.v s10)] ∧
  Calls Tryd.prog fn_tidewaterref10_Right ⟨[(Value.agg ⟨[(Value.int .i64 n9), (Slc.v s10)]⟩)]⟩ w8 fun e11 w12 =>
  ∃ b13 : Bool, e11 = .returned (Value.bool b13) ∧
  BIf (!b13) (
    canW w12 (⟨r7, 0, none⟩ : Addr) 2 ∧ ∀ w14 : World, w14 = setCells w12 (⟨r7, 0, none⟩ : Addr) 0 [(Value.int .i64 (0 : Int)), (Slc.v (⟨none, 0, 0⟩ : Slc))] →
    ∃ n15 : Int, ∃ s16 : Slc, rowAt w14 (⟨r7, 0, none⟩ : Addr) 0 [(Value.int .i64 n15), (Slc.v s16)] ∧
    K (Value.tuple ⟨[(Value.agg ⟨[(Value.int .i64 n15), (Slc.v s16)]⟩), (Value.int .i64 (4 : Int))]⟩) w14) (
    ∃ n17 : Int, World.cell? w12 (⟨r5, 0, none⟩ : Addr) = some (Value.int .i64 n17) ∧
    BIf (decide (n17 = (1073741824 : Int))) (
      canW w12 (⟨r7, 0, none⟩ : Addr) 2 ∧ ∀ w18 : World, w18 = setCells w12 (⟨r7, 0, none⟩ : Addr) 0 [(Value.int .i64 (0 : Int)), (Slc.v (⟨none, 0, 0⟩ : Slc))] →
      ∃ n19 : Int, ∃ s20 : Slc, rowAt w18 (⟨r7, 0, none⟩ : Addr) 0 [(Value.int .i64 n19), (Slc.v s20)] ∧
      K (Value.tuple ⟨[(Value.agg ⟨[(Value.int .i64 n19), (Slc.v s20)]⟩), (Value.int .i64 (14 : Int))]⟩) w18) (
      ∃ n21 : Int, World.cell? w12 (⟨r5, 0, none⟩ : Addr) = some (Value.int .i64 n21) ∧
      inR .i64 (n21 + (1 : Int)) ∧
      newS w12 (.cells ⟨[(Value.int .i64 (0 : Int)), (Slc.v (⟨none, 0, 0⟩ : Slc))]⟩ 31) fun r22 w23 =>
      canW w23 (⟨r22, 0, none⟩ : Addr) 2 ∧ ∀ w24 : World, w24 = setCells w23 (⟨r22, 0, none⟩ : Addr) 0 [(Value.int .i64 (n21 + (1 : Int))), (Slc.v (⟨none, 0, 0⟩ : Slc))] →
      ∃ s25 : Slc, World.cell? w24 (⟨r5, 1, none⟩ : Addr) = some (Slc.v s25) ∧
      ∃ (I26 : (Int) → (Int) → (Int) → World → Prop) (mu27 : (Int) → (Int) → (Int) → World → Nat), I26 ((-1 : Int)) ((0 : Int)) ((0 : Int)) w24 ∧ (
      ∀ home28 : Int, ∀ least29 : Int, ∀ i30 : Int, ∀ w31 : World, I26 home28 least29 i30 w31 → ∀ u32 u33 u34 u35 u36 u37 u38 u39 u40 u41 u42 u43 u44 u45 u46 u47 u48 u49 u50 u51 u52 u53 u54 u55 u56 u57 u58 u59 u60 u61 u62 u63 u64 u65 u66 u67 u68 u69 u70 u71 u72 u73 u74 u75 u76 u77 u78 u79 u80 u81 u82 u83 u84 u85 u86 u87 : Value,
        BIf (decide (i30 < ((s25.l : Nat) : Int))) (
          needSome s25.p fun a88 =>
          0 ≤ i30 ∧ i30 < ((s25.l : Nat) : Int) ∧
          ∃ s89 : Slc, World.cell? w31 (Addr.add a88 ((Int.toNat i30) * 1)) = some (Slc.v s89) ∧
          newS w31 (.cells ⟨[]⟩ 3) fun r90 w91 =>
          ∃ (I92 : (Slc) → (Int) → World → Prop) (mu93 : (Slc) → (Int) → World → Nat), I92 ((⟨(some (⟨r90, 0, none⟩ : Addr)), 0, 0⟩ : Slc)) ((0 : Int)) w91 ∧ (
          ∀ l94 : Slc, ∀ i95 : Int, ∀ w96 : World, I92 l94 i95 w96 → ∀ u97 u98 u99 u100 u101 u102 u103 u104 u105 u106 u107 u108 u109 : Value,
            BIf (decide (i95 < ((s89.l : Nat) : Int))) (
              needSome s89.p fun a110 =>
              0 ≤ i95 ∧ i95 < ((s89.l : Nat) : Int) ∧
              ∃ n111 : Int, World.cell? w96 (Addr.add a110 ((Int.toNat i95) * 1)) = some (Value.int .i64 n111) ∧
              Calls Tryd.prog fn_tidewaternum_In ⟨[(Slc.v gone3), (Value.int .i64 n111)]⟩ w96 fun e112 w113 =>
              ∃ b114 : Bool, e112 = .returned (Value.bool b114) ∧
              BIf (!b114) (
                newS w113 (.cells ⟨[(Value.int .i64 n111)]⟩ 3) fun r115 w116 =>
                appendS 1 3 [(Value.int .i64 (0 : Int))] w116 l94 (.slc (⟨(some (⟨r115, 0, none⟩ : Addr)), 1, 1⟩ : Slc)) fun s117 w118 =>
                inR .i64 (i95 + (1 : Int)) ∧
                (I92 (s117) ((i95 + (1 : Int))) w118 ∧ mu93 (s117) ((i95 + (1 : Int))) w118 < mu93 l94 i95 w96)) (
                inR .i64 (i95 + (1 : Int)) ∧
                (I92 (l94) ((i95 + (1 : Int))) w113 ∧ mu93 (l94) ((i95 + (1 : Int))) w113 < mu93 l94 i95 w96))) (
              BIf (decide (((l94.l : Nat) : Int) = (0 : Int))) (
                canW w96 (⟨r7, 0, none⟩ : Addr) 2 ∧ ∀ w119 : World, w119 = setCells w96 (⟨r7, 0, none⟩ : Addr) 0 [(Value.int .i64 (0 : Int)), (Slc.v (⟨none, 0, 0⟩ : Slc))] →
                ∃ n120 : Int, ∃ s121 : Slc, rowAt w119 (⟨r7, 0, none⟩ : Addr) 0 [(Value.int .i64 n120), (Slc.v s121)] ∧
                K (Value.tuple ⟨[(Value.agg ⟨[(Value.int .i64 n120), (Slc.v s121)]⟩), (Value.int .i64 (16 : Int))]⟩) w119) (
                ∃ s122 : Slc, World.cell? w96 (⟨r22, 1, none⟩ : Addr) = some (Slc.v s122) ∧
                newS w96 (.cells ⟨[(Slc.v l94)]⟩ 25) fun r123 w124 =>
                appendS 1 25 [(Slc.v (⟨none, 0, 0⟩ : Slc))] w124 s122 (.slc (⟨(some (⟨r123, 0, none⟩ : Addr)), 1, 1⟩ : Slc)) fun s125 w126 =>
                canW w126 (⟨r22, 1, none⟩ : Addr) 1 ∧ ∀ w127 : World, w127 = World.setCell w126 (⟨r22, 1, none⟩ : Addr) (Slc.v s125) →
                BIf (decide (home28 < (0 : Int))) (
                  BIf (decide (((l94.l : Nat) : Int) < ((s89.l : Nat) : Int))) (
                    ∃ s128 : Slc, World.cell? w127 (⟨r22, 1, none⟩ : Addr) = some (Slc.v s128) ∧
                    needSome s128.p fun a129 =>
                    0 ≤ least29 ∧ least29 < ((s128.l : Nat) : Int) ∧
                    ∃ s130 : Slc, World.cell? w127 (Addr.add a129 ((Int.toNat least29) * 1)) = some (Slc.v s130) ∧
                    BIf (decide (((l94.l : Nat) : Int) < ((s130.l : Nat) : Int))) (
                      inR .i64 (i30 + (1 : Int)) ∧
                      (I26 (i30) (i30) ((i30 + (1 : Int))) w127 ∧ mu27 (i30) (i30) ((i30 + (1 : Int))) w127 < mu27 home28 least29 i30 w31)) (
                      inR .i64 (i30 + (1 : Int)) ∧
                      (I26 (i30) (least29) ((i30 + (1 : Int))) w127 ∧ mu27 (i30) (least29) ((i30 + (1 : Int))) w127 < mu27 home28 least29 i30 w31))) (
                    ∃ s131 : Slc, World.cell? w127 (⟨r22, 1, none⟩ : Addr) = some (Slc.v s131) ∧
                    needSome s131.p fun a132 =>
                    0 ≤ least29 ∧ least29 < ((s131.l : Nat) : Int) ∧
                    ∃ s133 : Slc, World.cell? w127 (Addr.add a132 ((Int.toNat least29) * 1)) = some (Slc.v s133) ∧
                    BIf (decide (((l94.l : Nat) : Int) < ((s133.l : Nat) : Int))) (
                      inR .i64 (i30 + (1 : Int)) ∧
                      (I26 (home28) (i30) ((i30 + (1 : Int))) w127 ∧ mu27 (home28) (i30) ((i30 + (1 : Int))) w127 < mu27 home28 least29 i30 w31)) (
                      inR .i64 (i30 + (1 : Int)) ∧
                      (I26 (home28) (least29) ((i30 + (1 : Int))) w127 ∧ mu27 (home28) (least29) ((i30 + (1 : Int))) w127 < mu27 home28 least29 i30 w31)))) (
                  ∃ s134 : Slc, World.cell? w127 (⟨r22, 1, none⟩ : Addr) = some (Slc.v s134) ∧
                  needSome s134.p fun a135 =>
                  0 ≤ least29 ∧ least29 < ((s134.l : Nat) : Int) ∧
                  ∃ s136 : Slc, World.cell? w127 (Addr.add a135 ((Int.toNat least29) * 1)) = some (Slc.v s136) ∧
                  BIf (decide (((l94.l : Nat) : Int) < ((s136.l : Nat) : Int))) (
                    inR .i64 (i30 + (1 : Int)) ∧
                    (I26 (home28) (i30) ((i30 + (1 : Int))) w127 ∧ mu27 (home28) (i30) ((i30 + (1 : Int))) w127 < mu27 home28 least29 i30 w31)) (
                    inR .i64 (i30 + (1 : Int)) ∧
                    (I26 (home28) (least29) ((i30 + (1 : Int))) w127 ∧ mu27 (home28) (least29) ((i30 + (1 : Int))) w127 < mu27 home28 least29 i30 w31))))))) (
          BIf (decide (fresh4 < (0 : Int))) (
            ∃ n137 : Int, ∃ s138 : Slc, rowAt w31 (⟨r22, 0, none⟩ : Addr) 0 [(Value.int .i64 n137), (Slc.v s138)] ∧
            canW w31 (⟨r7, 0, none⟩ : Addr) 2 ∧ ∀ w139 : World, w139 = setCells w31 (⟨r7, 0, none⟩ : Addr) 0 [(Value.int .i64 n137), (Slc.v s138)] →
            ∃ n140 : Int, ∃ s141 : Slc, rowAt w139 (⟨r7, 0, none⟩ : Addr) 0 [(Value.int .i64 n140), (Slc.v s141)] ∧
            K (Value.tuple ⟨[(Value.agg ⟨[(Value.int .i64 n140), (Slc.v s141)]⟩), (Value.int .i64 (0 : Int))]⟩) w139) (
            BIf (decide ((11 : Int) < fresh4)) (
              canW w31 (⟨r7, 0, none⟩ : Addr) 2 ∧ ∀ w142 : World, w142 = setCells w31 (⟨r7, 0, none⟩ : Addr) 0 [(Value.int .i64 (0 : Int)), (Slc.v (⟨none, 0, 0⟩ : Slc))] →
              ∃ n143 : Int, ∃ s144 : Slc, rowAt w142 (⟨r7, 0, none⟩ : Addr) 0 [(Value.int .i64 n143), (Slc.v s144)] ∧
              K (Value.tuple ⟨[(Value.agg ⟨[(Value.int .i64 n143), (Slc.v s144)]⟩), (Value.int .i64 (1 : Int))]⟩) w142) (
              ∃ n145 : Int, ∃ s146 : Slc, rowAt w31 (⟨r5, 0, none⟩ : Addr) 0 [(Value.int .i64 n145), (Slc.v s146)] ∧
              Calls Tryd.prog fn_tidewaterref10_Units ⟨[(Value.agg ⟨[(Value.int .i64 n145), (Slc.v s146)]⟩)]⟩ w31 fun e147 w148 =>
              ∃ s149 : Slc, e147 = .returned (Slc.v s149) ∧
              Calls Tryd.prog fn_tidewaternum_In ⟨[(Slc.v s149), (Value.int .i64 fresh4)]⟩ w148 fun e150 w151 =>
              ∃ b152 : Bool, e150 = .returned (Value.bool b152) ∧
              BIf b152 (
                canW w151 (⟨r7, 0, none⟩ : Addr) 2 ∧ ∀ w153 : World, w153 = setCells w151 (⟨r7, 0, none⟩ : Addr) 0 [(Value.int .i64 (0 : Int)), (Slc.v (⟨none, 0, 0⟩ : Slc))] →
                ∃ n154 : Int, ∃ s155 : Slc, rowAt w153 (⟨r7, 0, none⟩ : Addr) 0 [(Value.int .i64 n154), (Slc.v s155)] ∧
                K (Value.tuple ⟨[(Value.agg ⟨[(Value.int .i64 n154), (Slc.v s155)]⟩), (Value.int .i64 (17 : Int))]⟩) w153) (
                ∃ J156 : (Int) → World → Prop,
                (
                  BIf (decide (home28 < (0 : Int))) (
                    J156 (least29) w151) (
                    J156 (home28) w151)) ∧ (
                ∀ home157 : Int, ∀ w158 : World, J156 home157 w158 → ∀ u159 u160 u161 : Value,
                  ∃ s162 : Slc, World.cell? w158 (⟨r22, 1, none⟩ : Addr) = some (Slc.v s162) ∧
                  needSome s162.p fun a163 =>
                  0 ≤ home157 ∧ home157 < ((s162.l : Nat) : Int) ∧
                  ∃ s164 : Slc, World.cell? w158 (Addr.add a163 ((Int.toNat home157) * 1)) = some (Slc.v s164) ∧
                  BIf (decide ((3 : Int) ≤ ((s164.l : Nat) : Int))) (
                    canW w158 (⟨r7, 0, none⟩ : Addr) 2 ∧ ∀ w165 : World, w165 = setCells w158 (⟨r7, 0, none⟩ : Addr) 0 [(Value.int .i64 (0 : Int)), (Slc.v (⟨none, 0, 0⟩ : Slc))] →
                    ∃ n166 : Int, ∃ s167 : Slc, rowAt w165 (⟨r7, 0, none⟩ : Addr) 0 [(Value.int .i64 n166), (Slc.v s167)] ∧
                    K (Value.tuple ⟨[(Value.agg ⟨[(Value.int .i64 n166), (Slc.v s167)]⟩), (Value.int .i64 (13 : Int))]⟩) w165) (
                    ∃ s168 : Slc, World.cell? (World.drew w158) (⟨r22, 1, none⟩ : Addr) = some (Slc.v s168) ∧
                    ∃ s169 : Slc, World.cell? (World.drew w158) (⟨r22, 1, none⟩ : Addr) = some (Slc.v s169) ∧
                    needSome s169.p fun a170 =>
                    0 ≤ home157 ∧ home157 < ((s169.l : Nat) : Int) ∧
                    ∃ s171 : Slc, World.cell? (World.drew w158) (Addr.add a170 ((Int.toNat home157) * 1)) = some (Slc.v s171) ∧
                    newS (World.drew w158) (.cells ⟨[(Value.int .i64 fresh4)]⟩ 3) fun r172 w173 =>
                    (∃ s174 : Slc, World.cell? w173 (Addr.add a170 ((Int.toNat home157) * 1)) = some (Slc.v s174) ∧
                    (Slc.v s174) = (Slc.v s171)) ∧
                    (∃ s175 : Slc, World.cell? w173 (⟨r22, 1, none⟩ : Addr) = some (Slc.v s175) ∧
                    (Slc.v s175) = (Slc.v s169)) ∧
                    (∃ s176 : Slc, World.cell? w173 (⟨r22, 1, none⟩ : Addr) = some (Slc.v s176) ∧
                    (Slc.v s176) = (Slc.v s168)) ∧
                    appendS 1 3 [(Value.int .i64 (0 : Int))] w173 s171 (.slc (⟨(some (⟨r172, 0, none⟩ : Addr)), 1, 1⟩ : Slc)) fun s177 w178 =>
                    (∃ s179 : Slc, World.cell? w178 (⟨r22, 1, none⟩ : Addr) = some (Slc.v s179) ∧
                    (Slc.v s179) = (Slc.v s168)) ∧
                    needSome s168.p fun a180 =>
                    0 ≤ home157 ∧ home157 < ((s168.l : Nat) : Int) ∧
                    canW w178 (Addr.add a180 ((Int.toNat home157) * 1)) 1 ∧ ∀ w181 : World, w181 = World.setCell w178 (Addr.add a180 ((Int.toNat home157) * 1)) (Slc.v s177) →
                    ∃ n182 : Int, ∃ s183 : Slc, rowAt w181 (⟨r22, 0, none⟩ : Addr) 0 [(Value.int .i64 n182), (Slc.v s183)] ∧
                    canW w181 (⟨r7, 0, none⟩ : Addr) 2 ∧ ∀ w184 : World, w184 = setCells w181 (⟨r7, 0, none⟩ : Addr) 0 [(Value.int .i64 n182), (Slc.v s183)] →
                    ∃ n185 : Int, ∃ s186 : Slc, rowAt w184 (⟨r7, 0, none⟩ : Addr) 0 [(Value.int .i64 n185), (Slc.v s186)] ∧
                    K (Value.tuple ⟨[(Value.agg ⟨[(Value.int .i64 n185), (Slc.v s186)]⟩), (Value.int .i64 (0 : Int))]⟩) w184)))))))))

theorem tidewaterref10_Replace_eq (p1 : Int) (p2 : Slc) (gone3 : Slc) (fresh4 : Int) (w : World) (K : Value → World → Prop) : tidewaterref10_Replace p1 p2 gone3 fresh4 w K = denF Tryd.prog callB Tryd.f21 (.two .none (.two .none (.two .none (.two .none (.two .none (.two (.two .none (.one (.loop [(9, (Sh.int .i64)), (10, (Sh.int .i64)), (31, (Sh.int .i64))] [7, 11, 12, 13, 15, 32, 33, 34, 35, 36, 37, 38, 39, 40, 41, 42, 43, 44, 45, 46, 47, 48, 49, 50, 51, 52, 53, 54, 55, 56, 57, 58, 59, 60, 61, 62, 63, 64, 65, 66, 67, 68, 69, 70, 71, 72, 73, 74, 75, 76, 77, 78, 79, 80, 81, 82] (.two .none (.two .none (.two (.one (.two .none (.two .none (.two (.two .none (.one (.loop [(13, Sh.slc), (39, (Sh.int .i64))] [15, 40, 41, 42, 43, 44, 45, 46, 47, 48, 49, 50, 51] .none))) .none)))) .none)))))) (.two .none (.two .none (.two .none (.cut [(9, (Sh.int .i64))] [94, 95, 96] .none .none)))))))))) [(Value.agg ⟨[(Value.int .i64 p1), (Slc.v p2)]⟩), (Slc.v gone3), (Value.int .i64 fresh4)] w K := by kernel_rfl
theorem tidewaterref10_Replace_ok (p1 : Int) (p2 : Slc) (gone3 : Slc) (fresh4 : Int) {w : World} {R : Ending → World → Prop} (h : tidewaterref10_Replace p1 p2 gone3 fresh4 w fun v w' => R (.returned v) w') : Calls Tryd.prog fn_tidewaterref10_Replace ⟨[(Value.agg ⟨[(Value.int .i64 p1), (Slc.v p2)]⟩), (Slc.v gone3), (Value.int .i64 fresh4)]⟩ w R :=
  calls_of_den callB_ok mixed Tryd.func21 (tidewaterref10_Replace_eq p1 p2 gone3 fresh4 w _ ▸ h)

/-- tidewater/tidewaterref10.Same -/
def tidewaterref10_Same (a1 : Int) (a2 : Slc) (b3 : Int) (b4 : Slc) (w : World) (K : Value → World → Prop) : Prop :=
  newS w (.cells ⟨[(Value.int .i64 a1), (Slc.v a2)]⟩ 31) fun r5 w6 =>
  newS w6 (.cells ⟨[(Value.int .i64 b3), (Slc.v b4)]⟩ 31) fun r7 w8 =>
  ∃ J9 : World → Prop,
  (
    ∃ n10 : Int, World.cell? w8 (⟨r5, 0, none⟩ : Addr) = some (Value.int .i64 n10) ∧
    ∃ n11 : Int, World.cell? w8 (⟨r7, 0, none⟩ : Addr) = some (Value.int .i64 n11) ∧
    BIf (!decide (n10 = n11)) (
      K (Value.bool false) w8) (
      ∃ s12 : Slc, World.cell? w8 (⟨r5, 1, none⟩ : Addr) = some (Slc.v s12) ∧
      ∃ s13 : Slc, World.cell? w8 (⟨r7, 1, none⟩ : Addr) = some (Slc.v s13) ∧
      BIf (!decide (((s12.l : Nat) : Int) = ((s13.l : Nat) : Int))) (
        K (Value.bool false) w8) (
        J9 w8))) ∧ (
  ∀ w14 : World, J9 w14 → ∀ u15 u16 u17 u18 u19 u20 u21 u22 u23 u24 u25 u26 u27 u28 u29 : Value,
    ∃ s30 : Slc, World.cell? w14 (⟨r5, 1, none⟩ : Addr) = some (Slc.v s30) ∧
    ∃ (I31 : (Int) → World → Prop) (mu32 : (Int) → World → Nat), I31 ((0 : Int)) w14 ∧ (
    ∀ i33 : Int, ∀ w34 : World, I31 i33 w34 → ∀ u35 u36 u37 u38 u39 u40 u41 u42 u43 u44 u45 u46 u47 u48 u49 u50 u51 : Value,
      BIf (decide (i33 < ((s30.l : Nat) : Int))) (
        ∃ s52 : Slc, World.cell? (World.drew w34) (⟨r5, 1, none⟩ : Addr) = some (Slc.v s52) ∧
        needSome s52.p fun a53 =>
        0 ≤ i33 ∧ i33 < ((s52.l : Nat) : Int) ∧
        ∃ s54 : Slc, World.cell? (World.drew w34) (Addr.add a53 ((Int.toNat i33) * 1)) = some (Slc.v s54) ∧
        ∃ s55 : Slc, World.cell? (World.drew w34) (⟨r7, 1, none⟩ : Addr) = some (Slc.v s55) ∧
        needSome s55.p fun a56 =>
        0 ≤ i33 ∧ i33 < ((s55.l : Nat) : Int) ∧
        ∃ s57 : Slc, World.cell? (World.drew w34) (Addr.add a56 ((Int.toNat i33) * 1)) = some (Slc.v s57) ∧
        Calls Tryd.prog fn_tidewaternum_SameInts ⟨[(Slc.v s54), (Slc.v s57)]⟩ (World.drew w34) fun e58 w59 =>
        ∃ b60 : Bool, e58 = .returned (Value.bool b60) ∧
        BIf (!b60) (
          K (Value.bool false) w59) (
          inR .i64 (i33 + (1 : Int)) ∧
          (I31 ((i33 + (1 : Int))) w59 ∧ mu32 ((i33 + (1 : Int))) w59 < mu32 i33 w34))) (
        K (Value.bool true) w34)))

theorem tidewaterref10_Same_eq (a1 : Int) (a2 : Slc) (b3 : Int) (b4 : Slc) (w : World) (K : Value → World → Prop) : tidewaterref10_Same a1 a2 b3 b4 w K = denF Tryd.prog callB Tryd.f22 (.two .none (.cut [] [4, 6, 7, 8, 9, 10, 11, 12, 13, 14, 15, 16, 17, 18, 19] .none (.two (.two .none (.one (.loop [(23, (Sh.int .i64))] [4, 5, 24, 25, 26, 27, 28, 29, 30, 31, 32, 33, 34, 35, 36, 37, 38] .none))) .none))) [(Value.agg ⟨[(Value.int .i64 a1), (Slc.v a2)]⟩), (Value.agg ⟨[(Value.int .i64 b3), (Slc.v b4)]⟩)] w K := by kernel_rfl
theorem tidewaterref10_Same_ok (a1 : Int) (a2 : Slc) (b3 : Int) (b4 : Slc) {w : World} {R : Ending → World → Prop} (h : tidewaterref10_Same a1 a2 b3 b4 w fun v w' => R (.returned v) w') : Calls Tryd.prog fn_tidewaterref10_Same ⟨[(Value.agg ⟨[(Value.int .i64 a1), (Slc.v a2)]⟩), (Value.agg ⟨[(Value.int .i64 b3), (Slc.v b4)]⟩)]⟩ w R :=
  calls_of_den callB_ok mixed Tryd.func22 (tidewaterref10_Same_eq a1 a2 b3 b4 w _ ▸ h)

end Go.D
