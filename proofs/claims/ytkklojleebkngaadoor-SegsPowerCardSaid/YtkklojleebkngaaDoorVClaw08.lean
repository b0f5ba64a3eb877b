/-
  WHAT IS PROVED: verification conditions of functions of this program, each with its soundness. No further conditions.
-/
import Derived.Test.YtkklojleebkngaaDoorBase
set_option linter.unusedSimpArgs false
set_option maxRecDepth 100000
set_option linter.unusedVariables false
namespace Go.D
open Go Go.Proofs
/-- tidewater/tidewaternum.SameLists -/
def tidewaternum_SameLists (a1 : Slc) (b2 : Slc) (w : World) (K : Value → World → Prop) : Prop :=
  BIf (!decide (((a1.l : Nat) : Int) = ((b2.l : Nat) : Int))) (
    K (Value.bool false) w) (
    ∃ (I3 : (Int) → World → Prop) (mu4 : (Int) → World → Nat), I3 ((0 : Int)) w ∧ (
    ∀ i5 : Int, ∀ w6 : World, I3 i5 w6 → ∀ u7 u8 u9 u10 u11 u12 u13 u14 u15 u16 u17 u18 u19 u20 u21 u22 : Value,
      BIf (decide (i5 < ((a1.l : Nat) : Int))) (
        needSome a1.p fun a23 =>
        0 ≤ i5 ∧ i5 < ((a1.l : Nat) : Int) ∧
        ∃ s24 : Slc, World.cell? (World.drew w6) (Addr.add a23 ((Int.toNat i5) * 1)) = some (Slc.v s24) ∧
        ∃ t25 : List UInt8, bytesAt (World.drew w6) s24 t25 ∧
        needSome b2.p fun a26 =>
        0 ≤ i5 ∧ i5 < ((b2.l : Nat) : Int) ∧
        ∃ s27 : Slc, World.cell? (World.drew w6) (Addr.add a26 ((Int.toNat i5) * 1)) = some (Slc.v s27) ∧
        ∃ t28 : List UInt8, bytesAt (World.drew w6) s27 t28 ∧
        BIf (!decide (t25 = t28)) (
          K (Value.bool false) (World.drew w6)) (
          inR .i64 (i5 + (1 : Int)) ∧
          (I3 ((i5 + (1 : Int))) (World.drew w6) ∧ mu4 ((i5 + (1 : Int))) (World.drew w6) < mu4 i5 w6))) (
        K (Value.bool true) w6)))

theorem tidewaternum_SameLists_eq (a1 : Slc) (b2 : Slc) (w : World) (K : Value → World → Prop) : tidewaternum_SameLists a1 b2 w K = denF Tryd.prog callB Tryd.f42 (.two .none (.two .none (.two (.two .none (.one (.loop [(13, (Sh.int .i64))] [4, 5, 14, 15, 16, 17, 18, 19, 20, 21, 22, 23, 24, 25, 26, 27] .none))) .none))) [(Slc.v a1), (Slc.v b2)] w K := by kernel_rfl
theorem tidewaternum_SameLists_ok (a1 : Slc) (b2 : Slc) {w : World} {R : Ending → World → Prop} (h : tidewaternum_SameLists a1 b2 w fun v w' => R (.returned v) w') : Calls Tryd.prog fn_tidewaternum_SameLists ⟨[(Slc.v a1), (Slc.v b2)]⟩ w R :=
  calls_of_den callB_ok mixed Tryd.func42 (tidewaternum_SameLists_eq a1 b2 w _ ▸ h)

/-- (tidewater/tidewaterlaw08.Act).record -/
def tidewaterlaw08_Act_record (a1 : Int) (a2 : Int) (a3 : Int) (a4 : Bool) (a5 : Bool) (w : World) (K : Value → World → Prop) : Prop :=
  newS w (.cells ⟨[(Value.int .i64 a1), (Value.int .i64 a2), (Value.int .u8 a3), (Value.bool a4), (Value.bool a5)]⟩ 46) fun r6 w7 =>
  ∃ n8 : Int, World.cell? w7 (⟨r6, 0, none⟩ : Addr) = some (Value.int .i64 n8) ∧
  ∃ J9 : (Int) → World → Prop,
  (
    BIf (decide (n8 < (0 : Int))) (
      J9 ((3970 : Int)) w7) (
      BIf (decide ((3970 : Int) < n8)) (
        J9 ((3970 : Int)) w7) (
        J9 (n8) w7))) ∧ (
  ∀ n10 : Int, ∀ w11 : World, J9 n10 w11 → ∀ u12 u13 u14 u15 u16 u17 : Value,
    0 ≤ n10 ∧ n10 ≤ n10 ∧ n10 ≤ 2 ^ 30 ∧
    newS w11 (.cells ⟨repl (Int.toNat n10) [(Value.int .u8 (0 : Int))]⟩ 5) fun r18 w19 =>
    ∃ (I20 : (Int) → World → Prop) (mu21 : (Int) → World → Nat), I20 ((0 : Int)) w19 ∧ (
    ∀ i22 : Int, ∀ w23 : World, I20 i22 w23 → ∀ u24 u25 u26 u27 u28 u29 u30 u31 u32 : Value,
      BIf (decide (i22 < (((Int.toNat n10) : Nat) : Int))) (
        ∃ n33 : Int, World.cell? w23 (⟨r6, 2, none⟩ : Addr) = some (Value.int .u8 n33) ∧
        0 ≤ i22 ∧ i22 < (((Int.toNat n10) : Nat) : Int) ∧
        canW w23 (Addr.add (⟨r18, 0, none⟩ : Addr) ((Int.toNat i22) * 1)) 1 ∧ ∀ w34 : World, w34 = World.setCell w23 (Addr.add (⟨r18, 0, none⟩ : Addr) ((Int.toNat i22) * 1)) (Value.int .u8 n33) →
        inR .i64 (i22 + (1 : Int)) ∧
        (I20 ((i22 + (1 : Int))) w34 ∧ mu21 ((i22 + (1 : Int))) w34 < mu21 i22 w23)) (
        K (Slc.v (⟨(some (⟨r18, 0, none⟩ : Addr)), (Int.toNat n10), (Int.toNat n10)⟩ : Slc)) w23)))

theorem tidewaterlaw08_Act_record_eq (a1 : Int) (a2 : Int) (a3 : Int) (a4 : Bool) (a5 : Bool) (w : World) (K : Value → World → Prop) : tidewaterlaw08_Act_record a1 a2 a3 a4 a5 w K = denF Tryd.prog callB Tryd.f40 (.two .none (.two .none (.cut [(3, (Sh.int .i64))] [8, 9, 10, 11, 12, 13] .none (.two .none (.two (.two .none (.one (.loop [(18, (Sh.int .i64))] [5, 19, 20, 21, 22, 23, 24, 25, 26] .none))) .none))))) [(Value.agg ⟨[(Value.int .i64 a1), (Value.int .i64 a2), (Value.int .u8 a3), (Value.bool a4), (Value.bool a5)]⟩)] w K := by kernel_rfl
theorem tidewaterlaw08_Act_record_ok (a1 : Int) (a2 : Int) (a3 : Int) (a4 : Bool) (a5 : Bool) {w : World} {R : Ending → World → Prop} (h : tidewaterlaw08_Act_record a1 a2 a3 a4 a5 w fun v w' => R (.returned v) w') : Calls Tryd.prog fn_tidewaterlaw08_Act_record ⟨[(Value.agg ⟨[(Value.int .i64 a1), (Value.int .i64 a2), (Value.int .u8 a3), (Value.bool a4), (Value.bool a5)]⟩)]⟩ w R :=
  calls_of_den callB_ok mixed Tryd.func40 (tidewaterlaw08_Act_record_eq a1 a2 a3 a4 a5 w _ ▸ h)

/-- tidewater/tidewaterlaw08.alive -/
def tidewaterlaw08_alive  (w : World) (K : Value → World → Prop) : Prop :=
  Calls Tryd.prog fn_disk_New ⟨[(Value.int .i64 (64 : Int))]⟩ w fun e1 w2 =>
  ∃ p3 : Option Addr, ∃ e4 : Value, e1 = .returned (Value.tuple ⟨[(Value.pointer p3), e4]⟩) ∧
  ∃ J5 : World → Prop,
  (
    isI e4 ∧
    BIf (!isNilI e4) (
      K (Value.bool false) w2) (
      BIf (Option.isNone (p3 : Option Addr)) (
        K (Value.bool false) w2) (
        J5 w2))) ∧ (
  ∀ w6 : World, J5 w6 → ∀ u7 u8 u9 u10 u11 u12 u13 : Value,
    Calls Tryd.prog fn_segs_Open ⟨[(Value.pointer p3)]⟩ w6 fun e14 w15 =>
    ∃ p16 : Option Addr, ∃ e17 : Value, e14 = .returned (Value.tuple ⟨[(Value.pointer p16), e17]⟩) ∧
    ∃ J18 : World → Prop,
    (
      isI e17 ∧
      BIf (!isNilI e17) (
        K (Value.bool false) w15) (
        BIf (Option.isNone (p16 : Option Addr)) (
          K (Value.bool false) w15) (
          J18 w15))) ∧ (
    ∀ w19 : World, J18 w19 → ∀ u20 u21 u22 u23 u24 u25 u26 : Value,
      newS w19 (.cells ⟨[(Value.int .u8 (97 : Int))]⟩ 5) fun r27 w28 =>
      ∀ w30 : World, w30 = markW w28 r27 →
      Calls Tryd.prog fn_segs_Store_Append ⟨[(Value.pointer p16), (Slc.v (⟨(some (⟨r27, 0, none⟩ : Addr)), 1, 1⟩ : Slc))]⟩ w30 fun e31 w32 =>
      ∃ n33 : Int, ∃ e34 : Value, e31 = .returned (Value.tuple ⟨[(Value.int .i64 n33), e34]⟩) ∧
      isI e34 ∧
      BIf (isNilI e34) (
        BIf (decide (n33 = (0 : Int))) (
          Calls Tryd.prog fn_segs_Store_Last ⟨[(Value.pointer p16)]⟩ w32 fun e35 w36 =>
          ∃ n37 : Int, e35 = .returned (Value.int .i64 n37) ∧
          BIf (decide (n37 = (0 : Int))) (
            Calls Tryd.prog fn_segs_Store_Records ⟨[(Value.pointer p16), (Value.int .i64 (0 : Int))]⟩ w36 fun e38 w39 =>
            ∃ s40 : Slc, e38 = .returned (Slc.v s40) ∧
            K (Value.bool (decide (((s40.l : Nat) : Int) = (1 : Int)))) w39) (
            K (Value.bool false) w36)) (
          K (Value.bool false) w32)) (
        K (Value.bool false) w32)))

theorem tidewaterlaw08_alive_eq  (w : World) (K : Value → World → Prop) : tidewaterlaw08_alive  w K = denF Tryd.prog callB Tryd.f6 (.two .none (.two .none (.cut [] [0, 9, 10, 11, 12, 13, 14] .none (.two .none (.cut [] [0, 20, 21, 22, 23, 24, 25] .none .none))))) [] w K := by kernel_rfl
theorem tidewaterlaw08_alive_ok  {w : World} {R : Ending → World → Prop} (h : tidewaterlaw08_alive  w fun v w' => R (.returned v) w') : Calls Tryd.prog fn_tidewaterlaw08_alive ⟨[]⟩ w R :=
  calls_of_den callB_ok mixed Tryd.func6 (tidewaterlaw08_alive_eq  w _ ▸ h)

/-- tidewater/tidewaterlaw08.same -/
def tidewaterlaw08_same (s1 : Option Addr) (w2 : Option Addr) (w : World) (K : Value → World → Prop) : Prop :=
  newS w (.cells ⟨[]⟩ 3) fun r3 w4 =>
  needSome w2 fun a5 =>
  ∃ s6 : Slc, World.cell? w4 (a5.add 1) = some (Slc.v s6) ∧
  ∃ (I7 : (Slc) → (Int) → World → Prop) (mu8 : (Slc) → (Int) → World → Nat), I7 ((⟨(some (⟨r3, 0, none⟩ : Addr)), 0, 0⟩ : Slc)) ((0 : Int)) w4 ∧ (
  ∀ numbers9 : Slc, ∀ i10 : Int, ∀ w11 : World, I7 numbers9 i10 w11 → ∀ u12 u13 u14 u15 u16 u17 u18 u19 u20 u21 u22 u23 u24 u25 u26 u27 u28 u29 u30 : Value,
    BIf (decide (i10 < ((s6.l : Nat) : Int))) (
      needSome s6.p fun a31 =>
      0 ≤ i10 ∧ i10 < ((s6.l : Nat) : Int) ∧
      ∃ n32 : Int, ∃ n33 : Int, ∃ n34 : Int, ∃ s35 : Slc, rowAt w11 (Addr.add a31 ((Int.toNat i10) * 4)) 0 [(Value.int .i64 n32), (Value.int .i64 n33), (Value.int .i64 n34), (Slc.v s35)] ∧
      newS w11 (.cells ⟨[(Value.int .i64 (0 : Int)), (Value.int .i64 (0 : Int)), (Value.int .i64 (0 : Int)), (Slc.v (⟨none, 0, 0⟩ : Slc))]⟩ 93) fun r36 w37 =>
      canW w37 (⟨r36, 0, none⟩ : Addr) 4 ∧ ∀ w38 : World, w38 = setCells w37 (⟨r36, 0, none⟩ : Addr) 0 [(Value.int .i64 n32), (Value.int .i64 n33), (Value.int .i64 n34), (Slc.v s35)] →
      ∃ n39 : Int, World.cell? w38 (⟨r36, 1, none⟩ : Addr) = some (Value.int .i64 n39) ∧
      newS w38 (.cells ⟨[(Value.int .i64 n39)]⟩ 3) fun r40 w41 =>
      appendS 1 3 [(Value.int .i64 (0 : Int))] w41 numbers9 (.slc (⟨(some (⟨r40, 0, none⟩ : Addr)), 1, 1⟩ : Slc)) fun s42 w43 =>
      ∃ n44 : Int, World.cell? (World.drew w43) (⟨r36, 1, none⟩ : Addr) = some (Value.int .i64 n44) ∧
      ∃ s45 : Slc, World.cell? (World.drew w43) (⟨r36, 3, none⟩ : Addr) = some (Slc.v s45) ∧
      Calls Tryd.prog fn_segs_Store_Records ⟨[(Value.pointer s1), (Value.int .i64 n44)]⟩ (World.drew w43) fun e46 w47 =>
      ∃ s48 : Slc, e46 = .returned (Slc.v s48) ∧
      (∃ s49 : Slc, World.cell? w47 (⟨r36, 3, none⟩ : Addr) = some (Slc.v s49) ∧
      (Slc.v s49) = (Slc.v s45)) ∧
      Calls Tryd.prog fn_tidewaternum_SameLists ⟨[(Slc.v s48), (Slc.v s45)]⟩ w47 fun e50 w51 =>
      ∃ b52 : Bool, e50 = .returned (Value.bool b52) ∧
      BIf (!b52) (
        K (Value.bool false) w51) (
        inR .i64 (i10 + (1 : Int)) ∧
        (I7 (s42) ((i10 + (1 : Int))) w51 ∧ mu8 (s42) ((i10 + (1 : Int))) w51 < mu8 numbers9 i10 w11))) (
      ∃ J53 : (Int) → World → Prop,
      (
        BIf (decide ((0 : Int) < ((numbers9.l : Nat) : Int))) (
          inR .i64 (((numbers9.l : Nat) : Int) - (1 : Int)) ∧
          needSome numbers9.p fun a54 =>
          0 ≤ (((numbers9.l : Nat) : Int) - (1 : Int)) ∧ (((numbers9.l : Nat) : Int) - (1 : Int)) < ((numbers9.l : Nat) : Int) ∧
          ∃ n55 : Int, World.cell? w11 (Addr.add a54 ((Int.toNat (((numbers9.l : Nat) : Int) - (1 : Int))) * 1)) = some (Value.int .i64 n55) ∧
          J53 (n55) w11) (
          J53 ((-1 : Int)) w11)) ∧ (
      ∀ last56 : Int, ∀ w57 : World, J53 last56 w57 → ∀ u58 u59 u60 u61 u62 u63 u64 u65 u66 : Value,
        Calls Tryd.prog fn_segs_Store_Segments ⟨[(Value.pointer s1)]⟩ (World.drew w57) fun e67 w68 =>
        ∃ s69 : Slc, e67 = .returned (Slc.v s69) ∧
        Calls Tryd.prog fn_tidewaternum_SameInts ⟨[(Slc.v s69), (Slc.v numbers9)]⟩ w68 fun e70 w71 =>
        ∃ b72 : Bool, e70 = .returned (Value.bool b72) ∧
        BIf b72 (
          Calls Tryd.prog fn_segs_Store_Last ⟨[(Value.pointer s1)]⟩ w71 fun e73 w74 =>
          ∃ n75 : Int, e73 = .returned (Value.int .i64 n75) ∧
          BIf (decide (n75 = last56)) (
            needSome w2 fun a76 =>
            ∃ n77 : Int, World.cell? w74 a76 = some (Value.int .i64 n77) ∧
            needSome w2 fun a78 =>
            ∃ s79 : Slc, World.cell? w74 (a78.add 1) = some (Slc.v s79) ∧
            inR .i64 (n77 - ((s79.l : Nat) : Int)) ∧
            Calls Tryd.prog fn_segs_Store_Free ⟨[(Value.pointer s1)]⟩ w74 fun e80 w81 =>
            ∃ n82 : Int, e80 = .returned (Value.int .i64 n82) ∧
            (∃ s83 : Slc, World.cell? w81 (a78.add 1) = some (Slc.v s83) ∧
            (Slc.v s83) = (Slc.v s79)) ∧
            (∃ n84 : Int, World.cell? w81 a76 = some (Value.int .i64 n84) ∧
            (Value.int .i64 n84) = (Value.int .i64 n77)) ∧
            BIf (decide (n82 = (n77 - ((s79.l : Nat) : Int)))) (
              inR .i64 (last56 + (1 : Int)) ∧
              Calls Tryd.prog fn_segs_Store_Records ⟨[(Value.pointer s1), (Value.int .i64 (last56 + (1 : Int)))]⟩ w81 fun e85 w86 =>
              ∃ s87 : Slc, e85 = .returned (Slc.v s87) ∧
              K (Value.bool (decide (((s87.l : Nat) : Int) = (0 : Int)))) w86) (
              K (Value.bool false) w81)) (
            K (Value.bool false) w74)) (
          K (Value.bool false) w71))))

theorem tidewaterlaw08_same_eq (s1 : Option Addr) (w2 : Option Addr) (w : World) (K : Value → World → Prop) : tidewaterlaw08_same s1 w2 w K = denF Tryd.prog callB Tryd.f17 (.two .none (.two .none (.two (.two .none (.one (.loop [(5, Sh.slc), (15, (Sh.int .i64))] [4, 7, 16, 17, 18, 19, 20, 21, 22, 23, 24, 25, 26, 27, 28, 29, 30, 31, 32] .none))) (.two .none (.cut [(8, (Sh.int .i64))] [33, 34, 35, 36, 37, 38, 39, 40, 41] .none .none))))) [(Value.pointer s1), (Value.pointer w2)] w K := by kernel_rfl
theorem tidewaterlaw08_same_ok (s1 : Option Addr) (w2 : Option Addr) {w : World} {R : Ending → World → Prop} (h : tidewaterlaw08_same s1 w2 w fun v w' => R (.returned v) w') : Calls Tryd.prog fn_tidewaterlaw08_same ⟨[(Value.pointer s1), (Value.pointer w2)]⟩ w R :=
  calls_of_den callB_ok mixed Tryd.func17 (tidewaterlaw08_same_eq s1 w2 w _ ▸ h)

/-- tidewater/tidewaterlaw08.do -/
def tidewaterlaw08_do (d1 : Option Addr) (s2 : Option Addr) (w3 : Option Addr) (a4 : Int) (a5 : Int) (a6 : Int) (a7 : Bool) (a8 : Bool) (w : World) (K : Value → World → Prop) : Prop :=
  newS w (.cells ⟨[(Value.int .i64 a4), (Value.int .i64 a5), (Value.int .u8 a6), (Value.bool a7), (Value.bool a8)]⟩ 46) fun r9 w10 =>
  ∃ b11 : Bool, World.cell? w10 (⟨r9, 4, none⟩ : Addr) = some (Value.bool b11) ∧
  BIf b11 (
    Calls Tryd.prog fn_segs_Open ⟨[(Value.pointer d1)]⟩ w10 fun e12 w13 =>
    ∃ p14 : Option Addr, ∃ e15 : Value, e12 = .returned (Value.tuple ⟨[(Value.pointer p14), e15]⟩) ∧
    isI e15 ∧
    BIf (isNilI e15) (
      K (Value.tuple ⟨[(Value.pointer p14), (Value.bool (!Option.isNone (p14 : Option Addr)))]⟩) w13) (
      K (Value.tuple ⟨[(Value.pointer p14), (Value.bool false)]⟩) w13)) (
    ∃ b16 : Bool, World.cell? w10 (⟨r9, 3, none⟩ : Addr) = some (Value.bool b16) ∧
    BIf b16 (
      ∃ n17 : Int, World.cell? (World.drew w10) (⟨r9, 1, none⟩ : Addr) = some (Value.int .i64 n17) ∧
      ∃ n18 : Int, World.cell? (World.drew w10) (⟨r9, 1, none⟩ : Addr) = some (Value.int .i64 n18) ∧
      Calls Tryd.prog fn_segs_Store_Drop ⟨[(Value.pointer s2), (Value.int .i64 n17)]⟩ (World.drew w10) fun e19 w20 =>
      ∃ e21 : Value, e19 = .returned e21 ∧
      (∃ n22 : Int, World.cell? w20 (⟨r9, 1, none⟩ : Addr) = some (Value.int .i64 n22) ∧
      (Value.int .i64 n22) = (Value.int .i64 n18)) ∧
      Calls Tryd.prog fn_tidewaternum_Num ⟨[e21]⟩ w20 fun e23 w24 =>
      ∃ n25 : Int, e23 = .returned (Value.int .i64 n25) ∧
      (∃ n26 : Int, World.cell? w24 (⟨r9, 1, none⟩ : Addr) = some (Value.int .i64 n26) ∧
      (Value.int .i64 n26) = (Value.int .i64 n18)) ∧
      Calls Tryd.prog fn_tidewaterref08_Store_Drop ⟨[(Value.pointer w3), (Value.int .i64 n18)]⟩ w24 fun e27 w28 =>
      ∃ n29 : Int, e27 = .returned (Value.int .i64 n29) ∧
      K (Value.tuple ⟨[(Value.pointer s2), (Value.bool (decide (n25 = n29)))]⟩) w28) (
      ∃ n30 : Int, ∃ n31 : Int, ∃ n32 : Int, ∃ b33 : Bool, ∃ b34 : Bool, rowAt w10 (⟨r9, 0, none⟩ : Addr) 0 [(Value.int .i64 n30), (Value.int .i64 n31), (Value.int .u8 n32), (Value.bool b33), (Value.bool b34)] ∧
      Calls Tryd.prog fn_tidewaterlaw08_Act_record ⟨[(Value.agg ⟨[(Value.int .i64 n30), (Value.int .i64 n31), (Value.int .u8 n32), (Value.bool b33), (Value.bool b34)]⟩)]⟩ w10 fun e35 w36 =>
      ∃ s37 : Slc, e35 = .returned (Slc.v s37) ∧
      Calls Tryd.prog fn_segs_Store_Append ⟨[(Value.pointer s2), (Slc.v s37)]⟩ w36 fun e38 w39 =>
      ∃ n40 : Int, ∃ e41 : Value, e38 = .returned (Value.tuple ⟨[(Value.int .i64 n40), e41]⟩) ∧
      ∃ n42 : Int, ∃ n43 : Int, ∃ n44 : Int, ∃ b45 : Bool, ∃ b46 : Bool, rowAt w39 (⟨r9, 0, none⟩ : Addr) 0 [(Value.int .i64 n42), (Value.int .i64 n43), (Value.int .u8 n44), (Value.bool b45), (Value.bool b46)] ∧
      Calls Tryd.prog fn_tidewaterlaw08_Act_record ⟨[(Value.agg ⟨[(Value.int .i64 n42), (Value.int .i64 n43), (Value.int .u8 n44), (Value.bool b45), (Value.bool b46)]⟩)]⟩ w39 fun e47 w48 =>
      ∃ s49 : Slc, e47 = .returned (Slc.v s49) ∧
      Calls Tryd.prog fn_tidewaterref08_Store_Append ⟨[(Value.pointer w3), (Slc.v s49)]⟩ w48 fun e50 w51 =>
      ∃ n52 : Int, ∃ n53 : Int, e50 = .returned (Value.tuple ⟨[(Value.int .i64 n52), (Value.int .i64 n53)]⟩) ∧
      BIf (decide (n40 = n52)) (
        Calls Tryd.prog fn_tidewaternum_Num ⟨[e41]⟩ w51 fun e54 w55 =>
        ∃ n56 : Int, e54 = .returned (Value.int .i64 n56) ∧
        K (Value.tuple ⟨[(Value.pointer s2), (Value.bool (decide (n56 = n53)))]⟩) w55) (
        K (Value.tuple ⟨[(Value.pointer s2), (Value.bool false)]⟩) w51)))

theorem tidewaterlaw08_do_eq (d1 : Option Addr) (s2 : Option Addr) (w3 : Option Addr) (a4 : Int) (a5 : Int) (a6 : Int) (a7 : Bool) (a8 : Bool) (w : World) (K : Value → World → Prop) : tidewaterlaw08_do d1 s2 w3 a4 a5 a6 a7 a8 w K = denF Tryd.prog callB Tryd.f16 .none [(Value.pointer d1), (Value.pointer s2), (Value.pointer w3), (Value.agg ⟨[(Value.int .i64 a4), (Value.int .i64 a5), (Value.int .u8 a6), (Value.bool a7), (Value.bool a8)]⟩)] w K := by kernel_rfl
theorem tidewaterlaw08_do_ok (d1 : Option Addr) (s2 : Option Addr) (w3 : Option Addr) (a4 : Int) (a5 : Int) (a6 : Int) (a7 : Bool) (a8 : Bool) {w : World} {R : Ending → World → Prop} (h : tidewaterlaw08_do d1 s2 w3 a4 a5 a6 a7 a8 w fun v w' => R (.returned v) w') : Calls Tryd.prog fn_tidewaterlaw08_do ⟨[(Value.pointer d1), (Value.pointer s2), (Value.pointer w3), (Value.agg ⟨[(Value.int .i64 a4), (Value.int .i64 a5), (Value.int .u8 a6), (Value.bool a7), (Value.bool a8)]⟩)]⟩ w R :=
  calls_of_den callB_ok mixed Tryd.func16 (tidewaterlaw08_do_eq d1 s2 w3 a4 a5 a6 a7 a8 w _ ▸ h)

/-- tidewater/tidewaterlaw08.begin -/
def tidewaterlaw08_begin (n1 : Int) (w : World) (K : Value → World → Prop) : Prop :=
  0 ≤ (IntKind.wrap .u64 n1) ∧ 0 < (5 : Int) ∧
  inR .i64 ((1 : Int) + (IntKind.wrap .i64 ((IntKind.wrap .u64 n1) % (5 : Int)))) ∧
  inR .i64 ((64 : Int) * ((1 : Int) + (IntKind.wrap .i64 ((IntKind.wrap .u64 n1) % (5 : Int))))) ∧
  inR .i64 (((64 : Int) * ((1 : Int) + (IntKind.wrap .i64 ((IntKind.wrap .u64 n1) % (5 : Int))))) + (5 : Int)) ∧
  Calls Tryd.prog fn_disk_New ⟨[(Value.int .i64 (((64 : Int) * ((1 : Int) + (IntKind.wrap .i64 ((IntKind.wrap .u64 n1) % (5 : Int))))) + (5 : Int)))]⟩ w fun e2 w3 =>
  ∃ p4 : Option Addr, ∃ e5 : Value, e2 = .returned (Value.tuple ⟨[(Value.pointer p4), e5]⟩) ∧
  isI e5 ∧
  BIf (!isNilI e5) (
    K (Value.tuple ⟨[(Value.pointer none), (Value.pointer none), (Value.pointer none)]⟩) w3) (
    Calls Tryd.prog fn_segs_Open ⟨[(Value.pointer p4)]⟩ w3 fun e6 w7 =>
    ∃ p8 : Option Addr, ∃ e9 : Value, e6 = .returned (Value.tuple ⟨[(Value.pointer p8), e9]⟩) ∧
    isI e9 ∧
    BIf (!isNilI e9) (
      K (Value.tuple ⟨[(Value.pointer none), (Value.pointer none), (Value.pointer none)]⟩) w7) (
      newS w7 (.cells ⟨[(Value.int .i64 ((1 : Int) + (IntKind.wrap .i64 ((IntKind.wrap .u64 n1) % (5 : Int))))), (Slc.v (⟨none, 0, 0⟩ : Slc))]⟩ 88) fun r10 w11 =>
      K (Value.tuple ⟨[(Value.pointer p4), (Value.pointer p8), (Value.pointer (some (⟨r10, 0, none⟩ : Addr)))]⟩) w11))

theorem tidewaterlaw08_begin_eq (n1 : Int) (w : World) (K : Value → World → Prop) : tidewaterlaw08_begin n1 w K = denF Tryd.prog callB Tryd.f15 .none [(Value.int .i64 n1)] w K := by kernel_rfl
theorem tidewaterlaw08_begin_ok (n1 : Int) {w : World} {R : Ending → World → Prop} (h : tidewaterlaw08_begin n1 w fun v w' => R (.returned v) w') : Calls Tryd.prog fn_tidewaterlaw08_begin ⟨[(Value.int .i64 n1)]⟩ w R :=
  calls_of_den callB_ok mixed Tryd.func15 (tidewaterlaw08_begin_eq n1 w _ ▸ h)

/-- tidewater/tidewaterlaw08.SegsFill -/
def tidewaterlaw08_SegsFill (n1 : Int) (size2 : Int) (w : World) (K : Value → World → Prop) : Prop :=
  Calls Tryd.prog fn_tidewaterlaw08_alive ⟨[]⟩ w fun e3 w4 =>
  ∃ b5 : Bool, e3 = .returned (Value.bool b5) ∧
  BIf (!b5) (
    K (Value.bool false) w4) (
    0 ≤ (IntKind.wrap .u64 n1) ∧ 0 < (4 : Int) ∧
    inR .i64 ((1 : Int) + (IntKind.wrap .i64 ((IntKind.wrap .u64 n1) % (4 : Int)))) ∧
    0 ≤ (IntKind.wrap .u64 size2) ∧ 0 < (3968 : Int) ∧
    inR .i64 ((1 : Int) + (IntKind.wrap .i64 ((IntKind.wrap .u64 size2) % (3968 : Int)))) ∧
    inR .i64 ((64 : Int) * ((1 : Int) + (IntKind.wrap .i64 ((IntKind.wrap .u64 n1) % (4 : Int))))) ∧
    Calls Tryd.prog fn_disk_New ⟨[(Value.int .i64 ((64 : Int) * ((1 : Int) + (IntKind.wrap .i64 ((IntKind.wrap .u64 n1) % (4 : Int))))))]⟩ w4 fun e6 w7 =>
    ∃ p8 : Option Addr, ∃ e9 : Value, e6 = .returned (Value.tuple ⟨[(Value.pointer p8), e9]⟩) ∧
    isI e9 ∧
    BIf (!isNilI e9) (
      K (Value.bool false) w7) (
      Calls Tryd.prog fn_segs_Open ⟨[(Value.pointer p8)]⟩ w7 fun e10 w11 =>
      ∃ p12 : Option Addr, ∃ e13 : Value, e10 = .returned (Value.tuple ⟨[(Value.pointer p12), e13]⟩) ∧
      isI e13 ∧
      BIf (!isNilI e13) (
        K (Value.bool false) w11) (
        inR .i64 (((1 : Int) + (IntKind.wrap .i64 ((IntKind.wrap .u64 size2) % (3968 : Int)))) + (63 : Int)) ∧
        0 ≤ (((1 : Int) + (IntKind.wrap .i64 ((IntKind.wrap .u64 size2) % (3968 : Int)))) + (63 : Int)) ∧ 0 < (64 : Int) ∧ inR .i64 (((1 : Int) + (IntKind.wrap .i64 ((IntKind.wrap .u64 size2) % (3968 : Int)))) + (63 : Int)) ∧
        inR .i64 ((1 : Int) + ((((1 : Int) + (IntKind.wrap .i64 ((IntKind.wrap .u64 size2) % (3968 : Int)))) + (63 : Int)) / (64 : Int))) ∧
        0 ≤ (63 : Int) ∧ 0 < ((1 : Int) + ((((1 : Int) + (IntKind.wrap .i64 ((IntKind.wrap .u64 size2) % (3968 : Int)))) + (63 : Int)) / (64 : Int))) ∧ inR .i64 (63 : Int) ∧
        inR .i64 (((63 : Int) / ((1 : Int) + ((((1 : Int) + (IntKind.wrap .i64 ((IntKind.wrap .u64 size2) % (3968 : Int)))) + (63 : Int)) / (64 : Int)))) * ((1 : Int) + (IntKind.wrap .i64 ((IntKind.wrap .u64 n1) % (4 : Int))))) ∧
        ∃ (I14 : (Int) → World → Prop) (mu15 : (Int) → World → Nat), I14 ((0 : Int)) w11 ∧ (
        ∀ i16 : Int, ∀ w17 : World, I14 i16 w17 → ∀ u18 u19 u20 u21 u22 u23 u24 u25 u26 u27 u28 u29 u30 u31 u32 u33 u34 u35 u36 u37 u38 u39 u40 : Value,
          BIf (decide (i16 < (((63 : Int) / ((1 : Int) + ((((1 : Int) + (IntKind.wrap .i64 ((IntKind.wrap .u64 size2) % (3968 : Int)))) + (63 : Int)) / (64 : Int)))) * ((1 : Int) + (IntKind.wrap .i64 ((IntKind.wrap .u64 n1) % (4 : Int))))))) (
            0 ≤ ((1 : Int) + (IntKind.wrap .i64 ((IntKind.wrap .u64 size2) % (3968 : Int)))) ∧ ((1 : Int) + (IntKind.wrap .i64 ((IntKind.wrap .u64 size2) % (3968 : Int)))) ≤ ((1 : Int) + (IntKind.wrap .i64 ((IntKind.wrap .u64 size2) % (3968 : Int)))) ∧ ((1 : Int) + (IntKind.wrap .i64 ((IntKind.wrap .u64 size2) % (3968 : Int)))) ≤ 2 ^ 30 ∧
            newS w17 (.cells ⟨repl (Int.toNat ((1 : Int) + (IntKind.wrap .i64 ((IntKind.wrap .u64 size2) % (3968 : Int))))) [(Value.int .u8 (0 : Int))]⟩ 5) fun r41 w42 =>
            Calls Tryd.prog fn_segs_Store_Append ⟨[(Value.pointer p12), (Slc.v (⟨(some (⟨r41, 0, none⟩ : Addr)), (Int.toNat ((1 : Int) + (IntKind.wrap .i64 ((IntKind.wrap .u64 size2) % (3968 : Int))))), (Int.toNat ((1 : Int) + (IntKind.wrap .i64 ((IntKind.wrap .u64 size2) % (3968 : Int)))))⟩ : Slc))]⟩ w42 fun e43 w44 =>
            ∃ n45 : Int, ∃ e46 : Value, e43 = .returned (Value.tuple ⟨[(Value.int .i64 n45), e46]⟩) ∧
            isI e46 ∧
            BIf (!isNilI e46) (
              K (Value.bool false) w44) (
              0 ≤ i16 ∧ 0 < ((63 : Int) / ((1 : Int) + ((((1 : Int) + (IntKind.wrap .i64 ((IntKind.wrap .u64 size2) % (3968 : Int)))) + (63 : Int)) / (64 : Int)))) ∧ inR .i64 i16 ∧
              BIf (!decide (n45 = (i16 / ((63 : Int) / ((1 : Int) + ((((1 : Int) + (IntKind.wrap .i64 ((IntKind.wrap .u64 size2) % (3968 : Int)))) + (63 : Int)) / (64 : Int))))))) (
                K (Value.bool false) w44) (
                inR .i64 (i16 + (1 : Int)) ∧
                (I14 ((i16 + (1 : Int))) w44 ∧ mu15 ((i16 + (1 : Int))) w44 < mu15 i16 w17)))) (
            ∃ J47 : World → Prop,
            (
              0 ≤ ((1 : Int) + (IntKind.wrap .i64 ((IntKind.wrap .u64 size2) % (3968 : Int)))) ∧ ((1 : Int) + (IntKind.wrap .i64 ((IntKind.wrap .u64 size2) % (3968 : Int)))) ≤ ((1 : Int) + (IntKind.wrap .i64 ((IntKind.wrap .u64 size2) % (3968 : Int)))) ∧ ((1 : Int) + (IntKind.wrap .i64 ((IntKind.wrap .u64 size2) % (3968 : Int)))) ≤ 2 ^ 30 ∧
              newS w17 (.cells ⟨repl (Int.toNat ((1 : Int) + (IntKind.wrap .i64 ((IntKind.wrap .u64 size2) % (3968 : Int))))) [(Value.int .u8 (0 : Int))]⟩ 5) fun r48 w49 =>
              Calls Tryd.prog fn_segs_Store_Append ⟨[(Value.pointer p12), (Slc.v (⟨(some (⟨r48, 0, none⟩ : Addr)), (Int.toNat ((1 : Int) + (IntKind.wrap .i64 ((IntKind.wrap .u64 size2) % (3968 : Int))))), (Int.toNat ((1 : Int) + (IntKind.wrap .i64 ((IntKind.wrap .u64 size2) % (3968 : Int)))))⟩ : Slc))]⟩ w49 fun e50 w51 =>
              ∃ n52 : Int, ∃ e53 : Value, e50 = .returned (Value.tuple ⟨[(Value.int .i64 n52), e53]⟩) ∧
              Calls Tryd.prog fn_tidewaternum_Num ⟨[e53]⟩ w51 fun e54 w55 =>
              ∃ n56 : Int, e54 = .returned (Value.int .i64 n56) ∧
              BIf (!decide (n56 = (13 : Int))) (
                K (Value.bool false) w55) (
                Calls Tryd.prog fn_segs_Store_Free ⟨[(Value.pointer p12)]⟩ w55 fun e57 w58 =>
                ∃ n59 : Int, e57 = .returned (Value.int .i64 n59) ∧
                BIf (!decide (n59 = (0 : Int))) (
                  K (Value.bool false) w58) (
                  J47 w58))) ∧ (
            ∀ w60 : World, J47 w60 → ∀ u61 u62 u63 u64 u65 u66 u67 u68 u69 u70 u71 u72 u73 u74 u75 u76 u77 u78 : Value,
              inR .i64 (((1 : Int) + (IntKind.wrap .i64 ((IntKind.wrap .u64 n1) % (4 : Int)))) - (1 : Int)) ∧
              ∃ (I79 : (Int) → World → Prop) (mu80 : (Int) → World → Nat), I79 ((0 : Int)) w60 ∧ (
              ∀ i81 : Int, ∀ w82 : World, I79 i81 w82 → ∀ u83 u84 u85 u86 u87 u88 u89 u90 u91 : Value,
                BIf (decide (i81 < (((1 : Int) + (IntKind.wrap .i64 ((IntKind.wrap .u64 n1) % (4 : Int)))) - (1 : Int)))) (
                  Calls Tryd.prog fn_segs_Store_Drop ⟨[(Value.pointer p12), (Value.int .i64 i81)]⟩ w82 fun e92 w93 =>
                  ∃ e94 : Value, e92 = .returned e94 ∧
                  isI e94 ∧
                  BIf (!isNilI e94) (
                    K (Value.bool false) w93) (
                    inR .i64 (i81 + (1 : Int)) ∧
                    (I79 ((i81 + (1 : Int))) w93 ∧ mu80 ((i81 + (1 : Int))) w93 < mu80 i81 w82))) (
                  inR .i64 (((1 : Int) + (IntKind.wrap .i64 ((IntKind.wrap .u64 n1) % (4 : Int)))) - (1 : Int)) ∧
                  inR .i64 (((63 : Int) / ((1 : Int) + ((((1 : Int) + (IntKind.wrap .i64 ((IntKind.wrap .u64 size2) % (3968 : Int)))) + (63 : Int)) / (64 : Int)))) * (((1 : Int) + (IntKind.wrap .i64 ((IntKind.wrap .u64 n1) % (4 : Int)))) - (1 : Int))) ∧
                  ∃ (I95 : (Int) → World → Prop) (mu96 : (Int) → World → Nat), I95 ((0 : Int)) w82 ∧ (
                  ∀ i97 : Int, ∀ w98 : World, I95 i97 w98 → ∀ u99 u100 u101 u102 u103 u104 u105 u106 u107 u108 u109 u110 u111 u112 : Value,
                    BIf (decide (i97 < (((63 : Int) / ((1 : Int) + ((((1 : Int) + (IntKind.wrap .i64 ((IntKind.wrap .u64 size2) % (3968 : Int)))) + (63 : Int)) / (64 : Int)))) * (((1 : Int) + (IntKind.wrap .i64 ((IntKind.wrap .u64 n1) % (4 : Int)))) - (1 : Int))))) (
                      0 ≤ ((1 : Int) + (IntKind.wrap .i64 ((IntKind.wrap .u64 size2) % (3968 : Int)))) ∧ ((1 : Int) + (IntKind.wrap .i64 ((IntKind.wrap .u64 size2) % (3968 : Int)))) ≤ ((1 : Int) + (IntKind.wrap .i64 ((IntKind.wrap .u64 size2) % (3968 : Int)))) ∧ ((1 : Int) + (IntKind.wrap .i64 ((IntKind.wrap .u64 size2) % (3968 : Int)))) ≤ 2 ^ 30 ∧
                      newS w98 (.cells ⟨repl (Int.toNat ((1 : Int) + (IntKind.wrap .i64 ((IntKind.wrap .u64 size2) % (3968 : Int))))) [(Value.int .u8 (0 : Int))]⟩ 5) fun r113 w114 =>
                      Calls Tryd.prog fn_segs_Store_Append ⟨[(Value.pointer p12), (Slc.v (⟨(some (⟨r113, 0, none⟩ : Addr)), (Int.toNat ((1 : Int) + (IntKind.wrap .i64 ((IntKind.wrap .u64 size2) % (3968 : Int))))), (Int.toNat ((1 : Int) + (IntKind.wrap .i64 ((IntKind.wrap .u64 size2) % (3968 : Int)))))⟩ : Slc))]⟩ w114 fun e115 w116 =>
                      ∃ n117 : Int, ∃ e118 : Value, e115 = .returned (Value.tuple ⟨[(Value.int .i64 n117), e118]⟩) ∧
                      isI e118 ∧
                      BIf (!isNilI e118) (
                        K (Value.bool false) w116) (
                        inR .i64 (i97 + (1 : Int)) ∧
                        (I95 ((i97 + (1 : Int))) w116 ∧ mu96 ((i97 + (1 : Int))) w116 < mu96 i97 w98))) (
                      0 ≤ ((1 : Int) + (IntKind.wrap .i64 ((IntKind.wrap .u64 size2) % (3968 : Int)))) ∧ ((1 : Int) + (IntKind.wrap .i64 ((IntKind.wrap .u64 size2) % (3968 : Int)))) ≤ ((1 : Int) + (IntKind.wrap .i64 ((IntKind.wrap .u64 size2) % (3968 : Int)))) ∧ ((1 : Int) + (IntKind.wrap .i64 ((IntKind.wrap .u64 size2) % (3968 : Int)))) ≤ 2 ^ 30 ∧
                      newS w98 (.cells ⟨repl (Int.toNat ((1 : Int) + (IntKind.wrap .i64 ((IntKind.wrap .u64 size2) % (3968 : Int))))) [(Value.int .u8 (0 : Int))]⟩ 5) fun r119 w120 =>
                      Calls Tryd.prog fn_segs_Store_Append ⟨[(Value.pointer p12), (Slc.v (⟨(some (⟨r119, 0, none⟩ : Addr)), (Int.toNat ((1 : Int) + (IntKind.wrap .i64 ((IntKind.wrap .u64 size2) % (3968 : Int))))), (Int.toNat ((1 : Int) + (IntKind.wrap .i64 ((IntKind.wrap .u64 size2) % (3968 : Int)))))⟩ : Slc))]⟩ w120 fun e121 w122 =>
                      ∃ n123 : Int, ∃ e124 : Value, e121 = .returned (Value.tuple ⟨[(Value.int .i64 n123), e124]⟩) ∧
                      Calls Tryd.prog fn_tidewaternum_Num ⟨[e124]⟩ w122 fun e125 w126 =>
                      ∃ n127 : Int, e125 = .returned (Value.int .i64 n127) ∧
                      BIf (decide (n127 = (13 : Int))) (
                        Calls Tryd.prog fn_segs_Store_Last ⟨[(Value.pointer p12)]⟩ w126 fun e128 w129 =>
                        ∃ n130 : Int, e128 = .returned (Value.int .i64 n130) ∧
                        inR .i64 ((2 : Int) * ((1 : Int) + (IntKind.wrap .i64 ((IntKind.wrap .u64 n1) % (4 : Int))))) ∧
                        inR .i64 (((2 : Int) * ((1 : Int) + (IntKind.wrap .i64 ((IntKind.wrap .u64 n1) % (4 : Int))))) - (2 : Int)) ∧
                        BIf (decide (n130 = (((2 : Int) * ((1 : Int) + (IntKind.wrap .i64 ((IntKind.wrap .u64 n1) % (4 : Int))))) - (2 : Int)))) (
                          Calls Tryd.prog fn_segs_Store_Segments ⟨[(Value.pointer p12)]⟩ w129 fun e131 w132 =>
                          ∃ s133 : Slc, e131 = .returned (Slc.v s133) ∧
                          K (Value.bool (decide (((s133.l : Nat) : Int) = ((1 : Int) + (IntKind.wrap .i64 ((IntKind.wrap .u64 n1) % (4 : Int))))))) w132) (
                          K (Value.bool false) w129)) (
                        K (Value.bool false) w126)))))))))))

theorem tidewaterlaw08_SegsFill_eq (n1 : Int) (size2 : Int) (w : World) (K : Value → World → Prop) : tidewaterlaw08_SegsFill n1 size2 w K = denF Tryd.prog callB Tryd.f3 (.two .none (.two .none (.two .none (.two .none (.two .none (.two .none (.two .none (.two .none (.two (.two .none (.one (.loop [(52, (Sh.int .i64))] [4, 9, 10, 11, 53, 54, 55, 56, 57, 58, 59, 60, 61, 62, 63, 64, 65, 66, 67, 68, 69, 70, 71] .none))) (.cut [] [4, 12, 13, 72, 73, 74, 75, 76, 77, 78, 79, 80, 81, 82, 83, 84, 85, 86] .none (.two (.two .none (.one (.loop [(89, (Sh.int .i64))] [4, 14, 90, 91, 92, 93, 94, 95, 96] .none))) (.two (.two .none (.one (.loop [(101, (Sh.int .i64))] [4, 15, 16, 102, 103, 104, 105, 106, 107, 108, 109, 110, 111, 112] .none))) .none)))))))))))) [(Value.int .i64 n1), (Value.int .i64 size2)] w K := by kernel_rfl
theorem tidewaterlaw08_SegsFill_ok (n1 : Int) (size2 : Int) {w : World} {R : Ending → World → Prop} (h : tidewaterlaw08_SegsFill n1 size2 w fun v w' => R (.returned v) w') : Calls Tryd.prog fn_tidewaterlaw08_SegsFill ⟨[(Value.int .i64 n1), (Value.int .i64 size2)]⟩ w R :=
  calls_of_den callB_ok mixed Tryd.func3 (tidewaterlaw08_SegsFill_eq n1 size2 w _ ▸ h)

/-- tidewater/tidewaterlaw08.SegsPlays -/
def tidewaterlaw08_SegsPlays (n1 : Int) (list2 : Slc) (w : World) (K : Value → World → Prop) : Prop :=
  Calls Tryd.prog fn_tidewaterlaw08_alive ⟨[]⟩ w fun e3 w4 =>
  ∃ b5 : Bool, e3 = .returned (Value.bool b5) ∧
  BIf (!b5) (
    K (Value.bool false) w4) (
    BIf (decide ((60 : Int) < ((list2.l : Nat) : Int))) (
      K (Value.bool true) w4) (
      Calls Tryd.prog fn_tidewaterlaw08_begin ⟨[(Value.int .i64 n1)]⟩ w4 fun e6 w7 =>
      ∃ p8 : Option Addr, ∃ p9 : Option Addr, ∃ p10 : Option Addr, e6 = .returned (Value.tuple ⟨[(Value.pointer p8), (Value.pointer p9), (Value.pointer p10)]⟩) ∧
      ∃ J11 : World → Prop,
      (
        BIf (Option.isNone (p8 : Option Addr)) (
          K (Value.bool false) w7) (
          BIf (Option.isNone (p9 : Option Addr)) (
            K (Value.bool false) w7) (
            J11 w7))) ∧ (
      ∀ w12 : World, J11 w12 → ∀ u13 u14 u15 u16 u17 u18 u19 : Value,
        ∃ (I20 : (Option Addr) → (Int) → World → Prop) (mu21 : (Option Addr) → (Int) → World → Nat), I20 (p9) ((0 : Int)) w12 ∧ (
        ∀ s22 : Option Addr, ∀ i23 : Int, ∀ w24 : World, I20 s22 i23 w24 → ∀ u25 u26 u27 u28 u29 u30 u31 u32 u33 u34 u35 u36 u37 u38 u39 u40 u41 u42 u43 u44 u45 u46 u47 u48 u49 u50 u51 u52 : Value,
          BIf (decide (i23 < ((list2.l : Nat) : Int))) (
            needSome list2.p fun a53 =>
            0 ≤ i23 ∧ i23 < ((list2.l : Nat) : Int) ∧
            ∃ n54 : Int, ∃ n55 : Int, ∃ n56 : Int, ∃ b57 : Bool, ∃ b58 : Bool, rowAt w24 (Addr.add a53 ((Int.toNat i23) * 5)) 0 [(Value.int .i64 n54), (Value.int .i64 n55), (Value.int .u8 n56), (Value.bool b57), (Value.bool b58)] ∧
            newS w24 (.cells ⟨[(Value.int .i64 (0 : Int)), (Value.int .i64 (0 : Int)), (Value.int .u8 (0 : Int)), (Value.bool false), (Value.bool false)]⟩ 46) fun r59 w60 =>
            canW w60 (⟨r59, 0, none⟩ : Addr) 5 ∧ ∀ w61 : World, w61 = setCells w60 (⟨r59, 0, none⟩ : Addr) 0 [(Value.int .i64 n54), (Value.int .i64 n55), (Value.int .u8 n56), (Value.bool b57), (Value.bool b58)] →
            ∃ n62 : Int, ∃ n63 : Int, ∃ n64 : Int, ∃ b65 : Bool, ∃ b66 : Bool, rowAt w61 (⟨r59, 0, none⟩ : Addr) 0 [(Value.int .i64 n62), (Value.int .i64 n63), (Value.int .u8 n64), (Value.bool b65), (Value.bool b66)] ∧
            Calls Tryd.prog fn_tidewaterlaw08_do ⟨[(Value.pointer p8), (Value.pointer s22), (Value.pointer p10), (Value.agg ⟨[(Value.int .i64 n62), (Value.int .i64 n63), (Value.int .u8 n64), (Value.bool b65), (Value.bool b66)]⟩)]⟩ w61 fun e67 w68 =>
            ∃ p69 : Option Addr, ∃ b70 : Bool, e67 = .returned (Value.tuple ⟨[(Value.pointer p69), (Value.bool b70)]⟩) ∧
            BIf (!b70) (
              K (Value.bool false) w68) (
              Calls Tryd.prog fn_tidewaterlaw08_same ⟨[(Value.pointer p69), (Value.pointer p10)]⟩ w68 fun e71 w72 =>
              ∃ b73 : Bool, e71 = .returned (Value.bool b73) ∧
              BIf (!b73) (
                K (Value.bool false) w72) (
                Calls Tryd.prog fn_disk_Device_Pending ⟨[(Value.pointer p8)]⟩ w72 fun e74 w75 =>
                ∃ n76 : Int, e74 = .returned (Value.int .i64 n76) ∧
                BIf (!decide (n76 = (0 : Int))) (
                  K (Value.bool false) w75) (
                  inR .i64 (i23 + (1 : Int)) ∧
                  (I20 (p69) ((i23 + (1 : Int))) w75 ∧ mu21 (p69) ((i23 + (1 : Int))) w75 < mu21 s22 i23 w24))))) (
            Calls Tryd.prog fn_segs_Open ⟨[(Value.pointer p8)]⟩ w24 fun e77 w78 =>
            ∃ p79 : Option Addr, ∃ e80 : Value, e77 = .returned (Value.tuple ⟨[(Value.pointer p79), e80]⟩) ∧
            isI e80 ∧
            BIf (isNilI e80) (
              Calls Tryd.prog fn_tidewaterlaw08_same ⟨[(Value.pointer p79), (Value.pointer p10)]⟩ w78 fun e81 w82 =>
              ∃ b83 : Bool, e81 = .returned (Value.bool b83) ∧
              K (Value.bool b83) w82) (
              K (Value.bool false) w78))))))

theorem tidewaterlaw08_SegsPlays_eq (n1 : Int) (list2 : Slc) (w : World) (K : Value → World → Prop) : tidewaterlaw08_SegsPlays n1 list2 w K = denF Tryd.prog callB Tryd.f4 (.two .none (.two .none (.two .none (.two .none (.cut [] [4, 24, 25, 26, 27, 28, 29] .none (.two (.two .none (.one (.loop [(6, Sh.ptr), (32, (Sh.int .i64))] [4, 9, 10, 33, 34, 35, 36, 37, 38, 39, 40, 41, 42, 43, 44, 45, 46, 47, 48, 49, 50, 51, 52, 53, 54, 55, 56, 57] .none))) .none)))))) [(Value.int .i64 n1), (Slc.v list2)] w K := by kernel_rfl
theorem tidewaterlaw08_SegsPlays_ok (n1 : Int) (list2 : Slc) {w : World} {R : Ending → World → Prop} (h : tidewaterlaw08_SegsPlays n1 list2 w fun v w' => R (.returned v) w') : Calls Tryd.prog fn_tidewaterlaw08_SegsPlays ⟨[(Value.int .i64 n1), (Slc.v list2)]⟩ w R :=
  calls_of_den callB_ok mixed Tryd.func4 (tidewaterlaw08_SegsPlays_eq n1 list2 w _ ▸ h)

end Go.D
