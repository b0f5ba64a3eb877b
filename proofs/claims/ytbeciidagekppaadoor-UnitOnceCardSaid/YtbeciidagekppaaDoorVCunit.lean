/-
  WHAT IS PROVED: verification conditions of functions of this program, each with its soundness. No further conditions.
-/
import Derived.Test.YtbeciidagekppaaDoorBase
set_option linter.unusedSimpArgs false
set_option maxRecDepth 100000
set_option linter.unusedVariables false
namespace Go.D
open Go Go.Proofs
/-- (*tidewater/unit.Unit).take -/
def unit_Unit_take (u1 : Option Addr) (segment2 : Int) (at3 : Int) (b4 : Slc) (w : World) (K : Value → World → Prop) : Prop :=
  needSome u1 fun a5 =>
  ∃ m6 : Option Nat, World.cell? (World.drew w) (a5.add 2) = some (Value.map m6) ∧
  needSome u1 fun a7 =>
  ∃ m8 : Option Nat, World.cell? (World.drew w) (a7.add 2) = some (Value.map m8) ∧
  ∃ es9 : Array MapEntry, mapIs (World.drew w) m8 es9 ∧
  ∃ q10 : Option (Slc), mapGet (.int .i64) (Value.int .i64 segment2) es9 = some (Option.map (Sh.v Sh.slc) q10) ∧
  newS (World.drew w) (.cells ⟨[(Value.int .i64 at3)]⟩ 3) fun r11 w12 =>
  (∃ es13 : Array MapEntry, mapIs w12 m8 es13 ∧
  ∃ q14 : Option (Slc), mapGet (.int .i64) (Value.int .i64 segment2) es13 = some (Option.map (Sh.v Sh.slc) q14) ∧
  (Slc.v (Option.getD q14 ⟨none, 0, 0⟩)) = (Slc.v (Option.getD q10 ⟨none, 0, 0⟩))) ∧
  (∃ m15 : Option Nat, World.cell? w12 (a7.add 2) = some (Value.map m15) ∧
  (Value.map m15) = (Value.map m8)) ∧
  (∃ m16 : Option Nat, World.cell? w12 (a5.add 2) = some (Value.map m16) ∧
  (Value.map m16) = (Value.map m6)) ∧
  appendS 1 3 [(Value.int .i64 (0 : Int))] w12 (Option.getD q10 ⟨none, 0, 0⟩) (.slc (⟨(some (⟨r11, 0, none⟩ : Addr)), 1, 1⟩ : Slc)) fun s17 w18 =>
  (∃ m19 : Option Nat, World.cell? w18 (a5.add 2) = some (Value.map m19) ∧
  (Value.map m19) = (Value.map m6)) ∧
  ∃ (mb20 : Nat) (es21 : Array MapEntry) (ck22 : Nat) (es23 : Array MapEntry) (ck24 : Nat), m6 = some mb20 ∧ (World.heap (w18))[mb20]? = some (.map es21 ck22) ∧ mapPut (.int .i64) (Value.int .i64 segment2) (Slc.v s17) es21 ck22 = some (es23, ck24) ∧ ∀ w25 : World, w25 = setObjW w18 mb20 (.map es23 ck24) →
  needSome u1 fun a26 =>
  ∃ n27 : Int, World.cell? w25 (a26.add 5) = some (Value.int .i64 n27) ∧
  inR .i64 (at3 + (1 : Int)) ∧
  needSome u1 fun a28 =>
  canW w25 (a28.add 5) 1 ∧ ∀ w29 : World, w29 = World.setCell w25 (a28.add 5) (Value.int .i64 (if (at3 + (1 : Int)) > n27 then (at3 + (1 : Int)) else n27)) →
  needSome u1 fun a30 =>
  ∃ m31 : Option Nat, World.cell? w29 (a30.add 1) = some (Value.map m31) ∧
  ∃ es32 : Array MapEntry, mapIs w29 m31 es32 ∧
  ∃ q33 : Option (Slc), mapGet (.int .i64) (Value.int .i64 at3) es32 = some (Option.map (Sh.v Sh.slc) q33) ∧
  BIf (!(Option.isSome q33)) (
    needSome u1 fun a34 =>
    ∃ m35 : Option Nat, World.cell? w29 (a34.add 1) = some (Value.map m35) ∧
    ∃ (mb36 : Nat) (es37 : Array MapEntry) (ck38 : Nat) (es39 : Array MapEntry) (ck40 : Nat), m35 = some mb36 ∧ (World.heap (w29))[mb36]? = some (.map es37 ck38) ∧ mapPut (.int .i64) (Value.int .i64 at3) (Slc.v b4) es37 ck38 = some (es39, ck40) ∧ ∀ w41 : World, w41 = setObjW w29 mb36 (.map es39 ck40) →
    K (Value.tuple #[]) w41) (
    K (Value.tuple #[]) w29)

theorem unit_Unit_take_eq (u1 : Option Addr) (segment2 : Int) (at3 : Int) (b4 : Slc) (w : World) (K : Value → World → Prop) : unit_Unit_take u1 segment2 at3 b4 w K = denF Tryd.prog callB Tryd.f19 .none [(Value.pointer u1), (Value.int .i64 segment2), (Value.int .i64 at3), (Slc.v b4)] w K := by kernel_rfl
theorem unit_Unit_take_ok (u1 : Option Addr) (segment2 : Int) (at3 : Int) (b4 : Slc) {w : World} {R : Ending → World → Prop} (h : unit_Unit_take u1 segment2 at3 b4 w fun v w' => R (.returned v) w') : Calls Tryd.prog fn_unit_Unit_take ⟨[(Value.pointer u1), (Value.int .i64 segment2), (Value.int .i64 at3), (Slc.v b4)]⟩ w R :=
  calls_of_den callB_ok mixed Tryd.func19 (unit_Unit_take_eq u1 segment2 at3 b4 w _ ▸ h)

/-- (*tidewater/unit.Unit).tell -/
def unit_Unit_tell (u1 : Option Addr) (segment2 : Int) (b3 : Slc) (w : World) (K : Value → World → Prop) : Prop :=
  Calls Tryd.prog fn_pack_Read ⟨[(Slc.v b3)]⟩ w fun e4 w5 =>
  ∃ p6 : Option Addr, e4 = .returned (Value.pointer p6) ∧
  Calls Tryd.prog fn_pack_In_Num ⟨[(Value.pointer p6), (Value.int .i64 (3 : Int))]⟩ w5 fun e7 w8 =>
  ∃ n9 : Int, e7 = .returned (Value.int .i64 n9) ∧
  Calls Tryd.prog fn_pack_In_Num ⟨[(Value.pointer p6), (Value.int .i64 (1073741824 : Int))]⟩ w8 fun e10 w11 =>
  ∃ n12 : Int, e10 = .returned (Value.int .i64 n12) ∧
  ∃ J13 : (List UInt8) → (Int) → World → Prop,
  (
    BIf (decide (n9 = (1 : Int))) (
      Calls Tryd.prog fn_pack_In_Text ⟨[(Value.pointer p6), (Value.int .i64 (2048 : Int))]⟩ w11 fun e14 w15 =>
      ∃ t16 : List UInt8, e14 = .returned (strV t16) ∧
      J13 (t16) (n12) w15) (
      BIf (decide (n9 = (2 : Int))) (
        Calls Tryd.prog fn_pack_In_Num ⟨[(Value.pointer p6), (Value.int .i64 (1073741824 : Int))]⟩ w11 fun e17 w18 =>
        ∃ n19 : Int, e17 = .returned (Value.int .i64 n19) ∧
        J13 (([] : List UInt8)) (n19) w18) (
        J13 (([] : List UInt8)) (n12) w11))) ∧ (
  ∀ text20 : List UInt8, ∀ epoch21 : Int, ∀ w22 : World, J13 text20 epoch21 w22 → ∀ u23 u24 u25 u26 u27 u28 u29 u30 u31 : Value,
    Calls Tryd.prog fn_pack_In_End ⟨[(Value.pointer p6)]⟩ w22 fun e32 w33 =>
    ∃ e34 : Value, e32 = .returned e34 ∧
    isI e34 ∧
    BIf (!isNilI e34) (
      ∃ v35 : Value, World.cell? w33 (⟨gl_ErrForm, 0, none⟩ : Addr) = some v35 ∧
      K v35 w33) (
      BIf (decide (n9 = (1 : Int))) (
        BIf (decide ((4096 : Int) ≤ n12)) (
          ∃ v36 : Value, World.cell? w33 (⟨gl_ErrForm, 0, none⟩ : Addr) = some v36 ∧
          K v36 w33) (
          BIf (decide (text20 = ([] : List UInt8))) (
            ∃ v37 : Value, World.cell? w33 (⟨gl_ErrForm, 0, none⟩ : Addr) = some v37 ∧
            K v37 w33) (
            bytesK Tryd.prog 5 text20 w33 fun s38 w39 =>
            Calls Tryd.prog fn_unit_Unit_take ⟨[(Value.pointer u1), (Value.int .i64 segment2), (Value.int .i64 n12), (Slc.v s38)]⟩ w39 fun e40 w41 =>
            e40 = .returned (Value.tuple #[]) ∧
            K Value.nilIface w41))) (
        BIf (decide (n9 = (2 : Int))) (
          BIf (decide ((4096 : Int) < n12)) (
            ∃ v42 : Value, World.cell? w33 (⟨gl_ErrForm, 0, none⟩ : Addr) = some v42 ∧
            K v42 w33) (
            needSome u1 fun a43 =>
            canW w33 (a43.add 3) 1 ∧ ∀ w44 : World, w44 = World.setCell w33 (a43.add 3) (Value.int .i64 n12) →
            needSome u1 fun a45 =>
            canW w44 (a45.add 4) 1 ∧ ∀ w46 : World, w46 = World.setCell w44 (a45.add 4) (Value.int .i64 epoch21) →
            K Value.nilIface w46)) (
          BIf (decide (n9 = (3 : Int))) (
            needSome u1 fun a47 =>
            canW w33 (a47.add 4) 1 ∧ ∀ w48 : World, w48 = World.setCell w33 (a47.add 4) (Value.int .i64 epoch21) →
            K Value.nilIface w48) (
            ∃ v49 : Value, World.cell? w33 (⟨gl_ErrForm, 0, none⟩ : Addr) = some v49 ∧
            K v49 w33)))))

theorem unit_Unit_tell_eq (u1 : Option Addr) (segment2 : Int) (b3 : Slc) (w : World) (K : Value → World → Prop) : unit_Unit_tell u1 segment2 b3 w K = denF Tryd.prog callB Tryd.f26 (.two .none (.two .none (.two .none (.two .none (.two .none (.cut [(10, Sh.str), (11, (Sh.int .i64))] [19, 20, 21, 22, 23, 24, 25, 26, 27] .none .none)))))) [(Value.pointer u1), (Value.int .i64 segment2), (Slc.v b3)] w K := by kernel_rfl
theorem unit_Unit_tell_ok (u1 : Option Addr) (segment2 : Int) (b3 : Slc) {w : World} {R : Ending → World → Prop} (h : unit_Unit_tell u1 segment2 b3 w fun v w' => R (.returned v) w') : Calls Tryd.prog fn_unit_Unit_tell ⟨[(Value.pointer u1), (Value.int .i64 segment2), (Slc.v b3)]⟩ w R :=
  calls_of_den callB_ok mixed Tryd.func26 (unit_Unit_tell_eq u1 segment2 b3 w _ ▸ h)

/-- tidewater/unit.Open -/
def unit_Open (d1 : Option Addr) (w : World) (K : Value → World → Prop) : Prop :=
  Calls Tryd.prog fn_segs_Open ⟨[(Value.pointer d1)]⟩ w fun e2 w3 =>
  ∃ p4 : Option Addr, ∃ e5 : Value, e2 = .returned (Value.tuple ⟨[(Value.pointer p4), e5]⟩) ∧
  isI e5 ∧
  BIf (!isNilI e5) (
    K (Value.tuple ⟨[(Value.pointer none), e5]⟩) w3) (
    newS w3 (.map #[] 0) fun r6 w7 =>
    newS w7 (.map #[] 0) fun r8 w9 =>
    newS w9 (.cells ⟨[(Value.pointer p4), (Value.map (some r6)), (Value.map (some r8)), (Value.int .i64 (0 : Int)), (Value.int .i64 (0 : Int)), (Value.int .i64 (0 : Int))]⟩ 54) fun r10 w11 =>
    Calls Tryd.prog fn_segs_Store_Segments ⟨[(Value.pointer p4)]⟩ w11 fun e12 w13 =>
    ∃ s14 : Slc, e12 = .returned (Slc.v s14) ∧
    ∃ (I15 : (Int) → World → Prop) (mu16 : (Int) → World → Nat), I15 ((0 : Int)) w13 ∧ (
    ∀ i17 : Int, ∀ w18 : World, I15 i17 w18 → ∀ u19 u20 u21 u22 u23 u24 u25 u26 u27 u28 u29 u30 u31 u32 u33 u34 u35 u36 u37 u38 u39 u40 u41 u42 u43 : Value,
      BIf (decide (i17 < ((s14.l : Nat) : Int))) (
        needSome s14.p fun a44 =>
        0 ≤ i17 ∧ i17 < ((s14.l : Nat) : Int) ∧
        ∃ n45 : Int, World.cell? w18 (Addr.add a44 ((Int.toNat i17) * 1)) = some (Value.int .i64 n45) ∧
        Calls Tryd.prog fn_segs_Store_Records ⟨[(Value.pointer p4), (Value.int .i64 n45)]⟩ w18 fun e46 w47 =>
        ∃ s48 : Slc, e46 = .returned (Slc.v s48) ∧
        ∃ (I49 : (Int) → World → Prop) (mu50 : (Int) → World → Nat), I49 ((0 : Int)) w47 ∧ (
        ∀ i51 : Int, ∀ w52 : World, I49 i51 w52 → ∀ u53 u54 u55 u56 u57 u58 u59 u60 u61 u62 u63 u64 u65 u66 u67 : Value,
          BIf (decide (i51 < ((s48.l : Nat) : Int))) (
            needSome s48.p fun a68 =>
            0 ≤ i51 ∧ i51 < ((s48.l : Nat) : Int) ∧
            ∃ s69 : Slc, World.cell? w52 (Addr.add a68 ((Int.toNat i51) * 1)) = some (Slc.v s69) ∧
            Calls Tryd.prog fn_unit_Unit_tell ⟨[(Value.pointer (some (⟨r10, 0, none⟩ : Addr))), (Value.int .i64 n45), (Slc.v s69)]⟩ w52 fun e70 w71 =>
            ∃ e72 : Value, e70 = .returned e72 ∧
            isI e72 ∧
            BIf (!isNilI e72) (
              K (Value.tuple ⟨[(Value.pointer none), e72]⟩) w71) (
              inR .i64 (i51 + (1 : Int)) ∧
              (I49 ((i51 + (1 : Int))) w71 ∧ mu50 ((i51 + (1 : Int))) w71 < mu50 i51 w52))) (
            inR .i64 (i17 + (1 : Int)) ∧
            (I15 ((i17 + (1 : Int))) w52 ∧ mu16 ((i17 + (1 : Int))) w52 < mu16 i17 w18)))) (
        Calls Tryd.prog fn_unit_Unit_forget ⟨[(Value.pointer (some (⟨r10, 0, none⟩ : Addr)))]⟩ w18 fun e73 w74 =>
        e73 = .returned (Value.tuple #[]) ∧
        K (Value.tuple ⟨[(Value.pointer (some (⟨r10, 0, none⟩ : Addr))), Value.nilIface]⟩) w74)))

theorem unit_Open_eq (d1 : Option Addr) (w : World) (K : Value → World → Prop) : unit_Open d1 w K = denF Tryd.prog callB Tryd.f11 (.two .none (.two .none (.two .none (.two .none (.two (.two .none (.one (.loop [(28, (Sh.int .i64))] [2, 3, 8, 10, 11, 29, 30, 31, 32, 33, 34, 35, 36, 37, 38, 39, 40, 41, 42, 43, 44, 45, 46, 47, 48] (.two .none (.two .none (.two (.one (.two .none (.two .none (.one (.loop [(36, (Sh.int .i64))] [2, 3, 10, 11, 37, 38, 39, 40, 41, 42, 43, 44, 45, 46, 47] .none))))) .none)))))) .none))))) [(Value.pointer d1)] w K := by kernel_rfl
theorem unit_Open_ok (d1 : Option Addr) {w : World} {R : Ending → World → Prop} (h : unit_Open d1 w fun v w' => R (.returned v) w') : Calls Tryd.prog fn_unit_Open ⟨[(Value.pointer d1)]⟩ w R :=
  calls_of_den callB_ok mixed Tryd.func11 (unit_Open_eq d1 w _ ▸ h)

/-- (*tidewater/unit.Unit).forget -/
def unit_Unit_forget (u1 : Option Addr) (w : World) (K : Value → World → Prop) : Prop :=
  needSome u1 fun a2 =>
  ∃ m3 : Option Nat, World.cell? w (a2.add 1) = some (Value.map m3) ∧
  ∃ it4 : Obj, rangeIs w m3 it4 ∧
  newS w (it4) fun r5 w6 =>
  ∃ (I7 : World → Prop) (mu8 : World → Nat), I7 w6 ∧ (
  ∀ w9 : World, I7 w9 → ∀ u10 u11 u12 u13 u14 u15 u16 u17 u18 u19 u20 u21 u22 u23 u24 u25 : Value,
    nextM w9 r5 (fun kk26 vv27 w28 =>
      ∃ kk29 vv30 : Value, entryIs w28 r5 (Value.tuple ⟨[kk29, vv30]⟩) ∧
      Sh.dec (Sh.int .i64) kk29 fun (n31 : Int) =>
      needSome u1 fun a32 =>
      ∃ n33 : Int, World.cell? w28 (a32.add 3) = some (Value.int .i64 n33) ∧
      BIf (decide (n31 < n33)) (
        needSome u1 fun a34 =>
        ∃ m35 : Option Nat, World.cell? w28 (a34.add 1) = some (Value.map m35) ∧
        ∃ (mb36 : Nat) (es37 : Array MapEntry) (ck38 : Nat) (es39 : Array MapEntry), m35 = some mb36 ∧ (World.heap (w28))[mb36]? = some (.map es37 ck38) ∧ mapDel (.int .i64) (Value.int .i64 n31) es37 = some es39 ∧ ∀ w40 : World, w40 = setObjW w28 mb36 (.map es39 ck38) →
        (I7 w40 ∧ mu8 w40 < mu8 w9)) (
        (I7 w28 ∧ mu8 w28 < mu8 w9))) (
      K (Value.tuple #[]) w9))

theorem unit_Unit_forget_eq (u1 : Option Addr) (w : World) (K : Value → World → Prop) : unit_Unit_forget u1 w K = denF Tryd.prog callB Tryd.f21 (.two .none (.one (.loop [] [2, 8, 9, 10, 11, 12, 13, 14, 15, 16, 17, 18, 19, 20, 21, 22] .none))) [(Value.pointer u1)] w K := by kernel_rfl
theorem unit_Unit_forget_ok (u1 : Option Addr) {w : World} {R : Ending → World → Prop} (h : unit_Unit_forget u1 w fun v w' => R (.returned v) w') : Calls Tryd.prog fn_unit_Unit_forget ⟨[(Value.pointer u1)]⟩ w R :=
  calls_of_den callB_ok mixed Tryd.func21 (unit_Unit_forget_eq u1 w _ ▸ h)

/-- (*tidewater/unit.Unit).check -/
def unit_Unit_check (u1 : Option Addr) (epoch2 : Int) (at3 : Int) (most4 : Int) (w : World) (K : Value → World → Prop) : Prop :=
  ∃ J5 : (Bool) → World → Prop,
  (
    needSome u1 fun a6 =>
    ∃ n7 : Int, World.cell? w (a6.add 4) = some (Value.int .i64 n7) ∧
    BIf (decide (epoch2 < n7)) (
      J5 (true) w) (
      J5 ((decide ((1073741824 : Int) < epoch2))) w)) ∧ (
  ∀ x8 : Bool, ∀ w9 : World, J5 x8 w9 → ∀ u10 u11 u12 u13 u14 u15 u16 u17 u18 u19 : Value,
    BIf x8 (
      ∃ v20 : Value, World.cell? w9 (⟨gl_ErrSealed, 0, none⟩ : Addr) = some v20 ∧
      K v20 w9) (
      BIf (decide (at3 < (0 : Int))) (
        ∃ v21 : Value, World.cell? w9 (⟨gl_ErrRange, 0, none⟩ : Addr) = some v21 ∧
        K v21 w9) (
        BIf (decide (most4 < at3)) (
          ∃ v22 : Value, World.cell? w9 (⟨gl_ErrRange, 0, none⟩ : Addr) = some v22 ∧
          K v22 w9) (
          K Value.nilIface w9))))

theorem unit_Unit_check_eq (u1 : Option Addr) (epoch2 : Int) (at3 : Int) (most4 : Int) (w : World) (K : Value → World → Prop) : unit_Unit_check u1 epoch2 at3 most4 w K = denF Tryd.prog callB Tryd.f17 (.two .none (.two (.one (.cut [(9, Sh.bool)] [10, 11, 12, 13, 14, 15, 16, 17, 18, 19] .none .none)) .none)) [(Value.pointer u1), (Value.int .i64 epoch2), (Value.int .i64 at3), (Value.int .i64 most4)] w K := by kernel_rfl
theorem unit_Unit_check_ok (u1 : Option Addr) (epoch2 : Int) (at3 : Int) (most4 : Int) {w : World} {R : Ending → World → Prop} (h : unit_Unit_check u1 epoch2 at3 most4 w fun v w' => R (.returned v) w') : Calls Tryd.prog fn_unit_Unit_check ⟨[(Value.pointer u1), (Value.int .i64 epoch2), (Value.int .i64 at3), (Value.int .i64 most4)]⟩ w R :=
  calls_of_den callB_ok mixed Tryd.func17 (unit_Unit_check_eq u1 epoch2 at3 most4 w _ ▸ h)

/-- (*tidewater/unit.Unit).record -/
def unit_Unit_record (u1 : Option Addr) (kind2 : Int) (n3 : Int) (text4 : Slc) (w : World) (K : Value → World → Prop) : Prop :=
  newS w (.cells ⟨[(Slc.v (⟨none, 0, 0⟩ : Slc)), Value.nilIface]⟩ 81) fun r5 w6 =>
  Calls Tryd.prog fn_pack_Out_Num ⟨[(Value.pointer (some (⟨r5, 0, none⟩ : Addr))), (Value.int .i64 kind2)]⟩ w6 fun e7 w8 =>
  e7 = .returned (Value.tuple #[]) ∧
  Calls Tryd.prog fn_pack_Out_Num ⟨[(Value.pointer (some (⟨r5, 0, none⟩ : Addr))), (Value.int .i64 n3)]⟩ w8 fun e9 w10 =>
  e9 = .returned (Value.tuple #[]) ∧
  ∃ J11 : World → Prop,
  (
    BIf (decide (kind2 = (1 : Int))) (
      ∃ t12 : List UInt8, bytesAt w10 text4 t12 ∧
      Calls Tryd.prog fn_pack_Out_Text ⟨[(Value.pointer (some (⟨r5, 0, none⟩ : Addr))), (strV t12)]⟩ w10 fun e13 w14 =>
      e13 = .returned (Value.tuple #[]) ∧
      J11 w14) (
      BIf (decide (kind2 = (2 : Int))) (
        needSome u1 fun a15 =>
        ∃ n16 : Int, World.cell? w10 (a15.add 4) = some (Value.int .i64 n16) ∧
        Calls Tryd.prog fn_pack_Out_Num ⟨[(Value.pointer (some (⟨r5, 0, none⟩ : Addr))), (Value.int .i64 n16)]⟩ w10 fun e17 w18 =>
        e17 = .returned (Value.tuple #[]) ∧
        J11 w18) (
        J11 w10))) ∧ (
  ∀ w19 : World, J11 w19 → ∀ u20 u21 u22 u23 u24 u25 u26 u27 u28 u29 u30 u31 u32 u33 u34 : Value,
    Calls Tryd.prog fn_pack_Out_Done ⟨[(Value.pointer (some (⟨r5, 0, none⟩ : Addr)))]⟩ w19 fun e35 w36 =>
    ∃ s37 : Slc, ∃ e38 : Value, e35 = .returned (Value.tuple ⟨[(Slc.v s37), e38]⟩) ∧
    isI e38 ∧
    BIf (!isNilI e38) (
      K (Value.tuple ⟨[(Value.int .i64 (0 : Int)), e38]⟩) w36) (
      needSome u1 fun a39 =>
      ∃ p40 : Option Addr, World.cell? w36 a39 = some (Value.pointer p40) ∧
      Calls Tryd.prog fn_segs_Store_Append ⟨[(Value.pointer p40), (Slc.v s37)]⟩ w36 fun e41 w42 =>
      ∃ n43 : Int, ∃ e44 : Value, e41 = .returned (Value.tuple ⟨[(Value.int .i64 n43), e44]⟩) ∧
      K (Value.tuple ⟨[(Value.int .i64 n43), e44]⟩) w42))

theorem unit_Unit_record_eq (u1 : Option Addr) (kind2 : Int) (n3 : Int) (text4 : Slc) (w : World) (K : Value → World → Prop) : unit_Unit_record u1 kind2 n3 text4 w K = denF Tryd.prog callB Tryd.f18 (.two .none (.two .none (.two .none (.two .none (.cut [] [21, 22, 23, 24, 25, 26, 27, 28, 29, 30, 31, 32, 33, 34, 35] .none .none))))) [(Value.pointer u1), (Value.int .i64 kind2), (Value.int .i64 n3), (Slc.v text4)] w K := by kernel_rfl
theorem unit_Unit_record_ok (u1 : Option Addr) (kind2 : Int) (n3 : Int) (text4 : Slc) {w : World} {R : Ending → World → Prop} (h : unit_Unit_record u1 kind2 n3 text4 w fun v w' => R (.returned v) w') : Calls Tryd.prog fn_unit_Unit_record ⟨[(Value.pointer u1), (Value.int .i64 kind2), (Value.int .i64 n3), (Slc.v text4)]⟩ w R :=
  calls_of_den callB_ok mixed Tryd.func18 (unit_Unit_record_eq u1 kind2 n3 text4 w _ ▸ h)

/-- (*tidewater/unit.Unit).Write -/
def unit_Unit_Write (u1 : Option Addr) (epoch2 : Int) (at3 : Int) (b4 : Slc) (w : World) (K : Value → World → Prop) : Prop :=
  Calls Tryd.prog fn_unit_Unit_check ⟨[(Value.pointer u1), (Value.int .i64 epoch2), (Value.int .i64 at3), (Value.int .i64 (4095 : Int))]⟩ w fun e5 w6 =>
  ∃ e7 : Value, e5 = .returned e7 ∧
  isI e7 ∧
  BIf (!isNilI e7) (
    K e7 w6) (
    needSome u1 fun a8 =>
    ∃ m9 : Option Nat, World.cell? w6 (a8.add 1) = some (Value.map m9) ∧
    ∃ es10 : Array MapEntry, mapIs w6 m9 es10 ∧
    ∃ q11 : Option (Slc), mapGet (.int .i64) (Value.int .i64 at3) es10 = some (Option.map (Sh.v Sh.slc) q11) ∧
    ∃ J12 : World → Prop,
    (
      ∃ J13 : (Bool) → World → Prop,
      (
        BIf (decide (((b4.l : Nat) : Int) = (0 : Int))) (
          J13 (true) w6) (
          J13 ((decide ((2048 : Int) < ((b4.l : Nat) : Int)))) w6)) ∧ (
      ∀ x14 : Bool, ∀ w15 : World, J13 x14 w15 → ∀ u16 u17 u18 u19 u20 u21 u22 u23 : Value,
        BIf x14 (
          ∃ v24 : Value, World.cell? w15 (⟨gl_ErrLong, 0, none⟩ : Addr) = some v24 ∧
          K v24 w15) (
          needSome u1 fun a25 =>
          ∃ n26 : Int, World.cell? w15 (a25.add 3) = some (Value.int .i64 n26) ∧
          BIf (decide (at3 < n26)) (
            ∃ v27 : Value, World.cell? w15 (⟨gl_ErrTrimmed, 0, none⟩ : Addr) = some v27 ∧
            K v27 w15) (
            BIf (Option.isSome q11) (
              ∃ v28 : Value, World.cell? w15 (⟨gl_ErrWritten, 0, none⟩ : Addr) = some v28 ∧
              K v28 w15) (
              J12 w15))))) ∧ (
    ∀ w29 : World, J12 w29 → ∀ u30 u31 u32 u33 u34 u35 u36 u37 u38 u39 u40 u41 u42 u43 u44 u45 u46 u47 u48 u49 u50 u51 : Value,
      Calls Tryd.prog fn_unit_Unit_record ⟨[(Value.pointer u1), (Value.int .i64 (1 : Int)), (Value.int .i64 at3), (Slc.v b4)]⟩ w29 fun e52 w53 =>
      ∃ n54 : Int, ∃ e55 : Value, e52 = .returned (Value.tuple ⟨[(Value.int .i64 n54), e55]⟩) ∧
      isI e55 ∧
      BIf (isNilI e55) (
        Calls Tryd.prog fn_slices_Clone_byte ⟨[(Slc.v b4)]⟩ w53 fun e56 w57 =>
        ∃ s58 : Slc, e56 = .returned (Slc.v s58) ∧
        Calls Tryd.prog fn_unit_Unit_take ⟨[(Value.pointer u1), (Value.int .i64 n54), (Value.int .i64 at3), (Slc.v s58)]⟩ w57 fun e59 w60 =>
        e59 = .returned (Value.tuple #[]) ∧
        K e55 w60) (
        K e55 w53)))

theorem unit_Unit_Write_eq (u1 : Option Addr) (epoch2 : Int) (at3 : Int) (b4 : Slc) (w : World) (K : Value → World → Prop) : unit_Unit_Write u1 epoch2 at3 b4 w K = denF Tryd.prog callB Tryd.f7 (.two .none (.two .none (.two .none (.cut [] [8, 30, 31, 32, 33, 34, 35, 36, 37, 38, 39, 40, 41, 42, 43, 44, 45, 46, 47, 48, 49, 50] (.one (.cut [(30, Sh.bool)] [31, 32, 33, 34, 35, 36, 37, 38] .none .none)) .none)))) [(Value.pointer u1), (Value.int .i64 epoch2), (Value.int .i64 at3), (Slc.v b4)] w K := by kernel_rfl
theorem unit_Unit_Write_ok (u1 : Option Addr) (epoch2 : Int) (at3 : Int) (b4 : Slc) {w : World} {R : Ending → World → Prop} (h : unit_Unit_Write u1 epoch2 at3 b4 w fun v w' => R (.returned v) w') : Calls Tryd.prog fn_unit_Unit_Write ⟨[(Value.pointer u1), (Value.int .i64 epoch2), (Value.int .i64 at3), (Slc.v b4)]⟩ w R :=
  calls_of_den callB_ok mixed Tryd.func7 (unit_Unit_Write_eq u1 epoch2 at3 b4 w _ ▸ h)

/-- (*tidewater/unit.Unit).Read -/
def unit_Unit_Read (u1 : Option Addr) (epoch2 : Int) (at3 : Int) (w : World) (K : Value → World → Prop) : Prop :=
  Calls Tryd.prog fn_unit_Unit_check ⟨[(Value.pointer u1), (Value.int .i64 epoch2), (Value.int .i64 at3), (Value.int .i64 (4095 : Int))]⟩ w fun e4 w5 =>
  ∃ e6 : Value, e4 = .returned e6 ∧
  isI e6 ∧
  BIf (!isNilI e6) (
    K (Value.tuple ⟨[(Slc.v (⟨none, 0, 0⟩ : Slc)), e6]⟩) w5) (
    needSome u1 fun a7 =>
    ∃ m8 : Option Nat, World.cell? w5 (a7.add 1) = some (Value.map m8) ∧
    ∃ es9 : Array MapEntry, mapIs w5 m8 es9 ∧
    ∃ q10 : Option (Slc), mapGet (.int .i64) (Value.int .i64 at3) es9 = some (Option.map (Sh.v Sh.slc) q10) ∧
    needSome u1 fun a11 =>
    ∃ n12 : Int, World.cell? w5 (a11.add 3) = some (Value.int .i64 n12) ∧
    BIf (decide (at3 < n12)) (
      ∃ v13 : Value, World.cell? (World.drew w5) (⟨gl_ErrTrimmed, 0, none⟩ : Addr) = some v13 ∧
      K (Value.tuple ⟨[(Slc.v (⟨none, 0, 0⟩ : Slc)), v13]⟩) (World.drew w5)) (
      BIf (!(Option.isSome q10)) (
        ∃ v14 : Value, World.cell? (World.drew w5) (⟨gl_ErrUnwritten, 0, none⟩ : Addr) = some v14 ∧
        K (Value.tuple ⟨[(Slc.v (⟨none, 0, 0⟩ : Slc)), v14]⟩) (World.drew w5)) (
        Calls Tryd.prog fn_slices_Clone_byte ⟨[(Slc.v (Option.getD q10 ⟨none, 0, 0⟩))]⟩ w5 fun e15 w16 =>
        ∃ s17 : Slc, e15 = .returned (Slc.v s17) ∧
        K (Value.tuple ⟨[(Slc.v s17), Value.nilIface]⟩) w16)))

theorem unit_Unit_Read_eq (u1 : Option Addr) (epoch2 : Int) (at3 : Int) (w : World) (K : Value → World → Prop) : unit_Unit_Read u1 epoch2 at3 w K = denF Tryd.prog callB Tryd.f13 .none [(Value.pointer u1), (Value.int .i64 epoch2), (Value.int .i64 at3)] w K := by kernel_rfl
theorem unit_Unit_Read_ok (u1 : Option Addr) (epoch2 : Int) (at3 : Int) {w : World} {R : Ending → World → Prop} (h : unit_Unit_Read u1 epoch2 at3 w fun v w' => R (.returned v) w') : Calls Tryd.prog fn_unit_Unit_Read ⟨[(Value.pointer u1), (Value.int .i64 epoch2), (Value.int .i64 at3)]⟩ w R :=
  calls_of_den callB_ok mixed Tryd.func13 (unit_Unit_Read_eq u1 epoch2 at3 w _ ▸ h)

/-- (*tidewater/unit.Unit).reclaim$1 -/
def unit_Unit_reclaim_1 (at1 : Int) (cap2 : Option Addr) (w : World) (K : Value → World → Prop) : Prop :=
  needSome cap2 fun a3 =>
  ∃ p4 : Option Addr, World.cell? w a3 = some (Value.pointer p4) ∧
  needSome p4 fun a5 =>
  ∃ n6 : Int, World.cell? w (a5.add 3) = some (Value.int .i64 n6) ∧
  K (Value.bool (decide (n6 ≤ at1))) w

theorem unit_Unit_reclaim_1_eq (at1 : Int) (cap2 : Option Addr) (w : World) (K : Value → World → Prop) : unit_Unit_reclaim_1 at1 cap2 w K = denF Tryd.prog callB Tryd.f34 .none [(Value.int .i64 at1), (Value.pointer cap2)] w K := by kernel_rfl
theorem unit_Unit_reclaim_1_ok (at1 : Int) (cap2 : Option Addr) {w : World} {R : Ending → World → Prop} (h : unit_Unit_reclaim_1 at1 cap2 w fun v w' => R (.returned v) w') : Calls Tryd.prog fn_unit_Unit_reclaim_1 ⟨[(Value.int .i64 at1), (Value.pointer cap2)]⟩ w R :=
  calls_of_den callB_ok mixed Tryd.func34 (unit_Unit_reclaim_1_eq at1 cap2 w _ ▸ h)

/-- slices.ContainsFunc[[]int,int] -/
def slices_ContainsFunc_int_unit_Unit_reclaim_1 (s1 : Slc) (c2 : Option Addr) (w : World) (K : Value → World → Prop) : Prop :=
  Calls Tryd.prog fn_slices_IndexFunc_int ⟨[(Slc.v s1), (Value.func (.func 34) ⟨[]⟩ ⟨[(Value.pointer c2)]⟩)]⟩ w fun e3 w4 =>
  ∃ n5 : Int, e3 = .returned (Value.int .i64 n5) ∧
  K (Value.bool (decide ((0 : Int) ≤ n5))) w4

theorem slices_ContainsFunc_int_unit_Unit_reclaim_1_eq (s1 : Slc) (c2 : Option Addr) (w : World) (K : Value → World → Prop) : slices_ContainsFunc_int_unit_Unit_reclaim_1 s1 c2 w K = denF Tryd.prog callB Tryd.f33 .none [(Slc.v s1), (Value.func (.func 34) ⟨[]⟩ ⟨[(Value.pointer c2)]⟩)] w K := by kernel_rfl
theorem slices_ContainsFunc_int_unit_Unit_reclaim_1_ok (s1 : Slc) (c2 : Option Addr) {w : World} {R : Ending → World → Prop} (h : slices_ContainsFunc_int_unit_Unit_reclaim_1 s1 c2 w fun v w' => R (.returned v) w') : Calls Tryd.prog fn_slices_ContainsFunc_int ⟨[(Slc.v s1), (Value.func (.func 34) ⟨[]⟩ ⟨[(Value.pointer c2)]⟩)]⟩ w R :=
  calls_of_den callB_ok mixed Tryd.func33 (slices_ContainsFunc_int_unit_Unit_reclaim_1_eq s1 c2 w _ ▸ h)

/-- slices.IndexFunc[[]int,int] -/
def slices_IndexFunc_int_unit_Unit_reclaim_1 (s1 : Slc) (c2 : Option Addr) (w : World) (K : Value → World → Prop) : Prop :=
  ∃ (I3 : (Int) → World → Prop) (mu4 : (Int) → World → Nat), I3 ((0 : Int)) w ∧ (
  ∀ i5 : Int, ∀ w6 : World, I3 i5 w6 → ∀ u7 u8 u9 u10 u11 u12 u13 u14 u15 u16 u17 u18 : Value,
    BIf (decide (i5 < ((s1.l : Nat) : Int))) (
      needSome s1.p fun a19 =>
      0 ≤ i5 ∧ i5 < ((s1.l : Nat) : Int) ∧
      ∃ n20 : Int, World.cell? w6 (Addr.add a19 ((Int.toNat i5) * 1)) = some (Value.int .i64 n20) ∧
      Calls Tryd.prog fn_unit_Unit_reclaim_1 ⟨[(Value.int .i64 n20), (Value.pointer c2)]⟩ w6 fun e21 w22 =>
      ∃ b23 : Bool, e21 = .returned (Value.bool b23) ∧
      BIf b23 (
        K (Value.int .i64 i5) w22) (
        inR .i64 (i5 + (1 : Int)) ∧
        (I3 ((i5 + (1 : Int))) w22 ∧ mu4 ((i5 + (1 : Int))) w22 < mu4 i5 w6))) (
      K (Value.int .i64 (-1 : Int)) w6))

theorem slices_IndexFunc_int_unit_Unit_reclaim_1_eq (s1 : Slc) (c2 : Option Addr) (w : World) (K : Value → World → Prop) : slices_IndexFunc_int_unit_Unit_reclaim_1 s1 c2 w K = denF Tryd.prog callB Tryd.f58 (.two .none (.two (.two .none (.one (.loop [(8, (Sh.int .i64))] [4, 5, 9, 10, 11, 12, 13, 14, 15, 16, 17, 18] .none))) .none)) [(Slc.v s1), (Value.func (.func 34) ⟨[]⟩ ⟨[(Value.pointer c2)]⟩)] w K := by kernel_rfl
theorem slices_IndexFunc_int_unit_Unit_reclaim_1_ok (s1 : Slc) (c2 : Option Addr) {w : World} {R : Ending → World → Prop} (h : slices_IndexFunc_int_unit_Unit_reclaim_1 s1 c2 w fun v w' => R (.returned v) w') : Calls Tryd.prog fn_slices_IndexFunc_int ⟨[(Slc.v s1), (Value.func (.func 34) ⟨[]⟩ ⟨[(Value.pointer c2)]⟩)]⟩ w R :=
  calls_of_den callB_ok mixed Tryd.func58 (slices_IndexFunc_int_unit_Unit_reclaim_1_eq s1 c2 w _ ▸ h)

/-- (*tidewater/unit.Unit).reclaim -/
def unit_Unit_reclaim (u1 : Option Addr) (w : World) (K : Value → World → Prop) : Prop :=
  newS w (.cells ⟨[(Value.pointer u1)]⟩ 25) fun r2 w3 =>
  ∃ p4 : Option Addr, World.cell? w3 (⟨r2, 0, none⟩ : Addr) = some (Value.pointer p4) ∧
  needSome p4 fun a5 =>
  ∃ p6 : Option Addr, World.cell? w3 a5 = some (Value.pointer p6) ∧
  Calls Tryd.prog fn_segs_Store_Segments ⟨[(Value.pointer p6)]⟩ w3 fun e7 w8 =>
  ∃ s9 : Slc, e7 = .returned (Slc.v s9) ∧
  ∃ (I10 : (Int) → World → Prop) (mu11 : (Int) → World → Nat), I10 ((0 : Int)) w8 ∧ (
  ∀ i12 : Int, ∀ w13 : World, I10 i12 w13 → ∀ u14 u15 u16 u17 u18 u19 u20 u21 u22 u23 u24 u25 u26 u27 u28 u29 u30 u31 u32 u33 u34 u35 u36 u37 u38 u39 u40 u41 u42 u43 u44 u45 u46 u47 u48 u49 u50 u51 : Value,
    BIf (decide (i12 < ((s9.l : Nat) : Int))) (
      needSome s9.p fun a52 =>
      0 ≤ i12 ∧ i12 < ((s9.l : Nat) : Int) ∧
      ∃ n53 : Int, World.cell? w13 (Addr.add a52 ((Int.toNat i12) * 1)) = some (Value.int .i64 n53) ∧
      ∃ J54 : World → Prop,
      (
        ∃ p55 : Option Addr, World.cell? w13 (⟨r2, 0, none⟩ : Addr) = some (Value.pointer p55) ∧
        needSome p55 fun a56 =>
        ∃ p57 : Option Addr, World.cell? w13 a56 = some (Value.pointer p57) ∧
        Calls Tryd.prog fn_segs_Store_Last ⟨[(Value.pointer p57)]⟩ w13 fun e58 w59 =>
        ∃ n60 : Int, e58 = .returned (Value.int .i64 n60) ∧
        BIf (decide (n53 = n60)) (
          K Value.nilIface w59) (
          ∃ p61 : Option Addr, World.cell? w59 (⟨r2, 0, none⟩ : Addr) = some (Value.pointer p61) ∧
          needSome p61 fun a62 =>
          ∃ m63 : Option Nat, World.cell? w59 (a62.add 2) = some (Value.map m63) ∧
          ∃ es64 : Array MapEntry, mapIs w59 m63 es64 ∧
          ∃ q65 : Option (Slc), mapGet (.int .i64) (Value.int .i64 n53) es64 = some (Option.map (Sh.v Sh.slc) q65) ∧
          Calls Tryd.prog fn_slices_ContainsFunc_int ⟨[(Slc.v (Option.getD q65 ⟨none, 0, 0⟩)), (Value.func (.func 34) ⟨[]⟩ ⟨[(Value.pointer (some (⟨r2, 0, none⟩ : Addr)))]⟩)]⟩ w59 fun e66 w67 =>
          ∃ b68 : Bool, e66 = .returned (Value.bool b68) ∧
          BIf b68 (
            K Value.nilIface w67) (
            J54 w67))) ∧ (
      ∀ w69 : World, J54 w69 → ∀ u70 u71 u72 u73 u74 u75 u76 u77 u78 u79 u80 u81 u82 u83 u84 u85 u86 u87 : Value,
        ∃ p88 : Option Addr, World.cell? w69 (⟨r2, 0, none⟩ : Addr) = some (Value.pointer p88) ∧
        needSome p88 fun a89 =>
        ∃ p90 : Option Addr, World.cell? w69 a89 = some (Value.pointer p90) ∧
        Calls Tryd.prog fn_segs_Store_Drop ⟨[(Value.pointer p90), (Value.int .i64 n53)]⟩ w69 fun e91 w92 =>
        ∃ e93 : Value, e91 = .returned e93 ∧
        isI e93 ∧
        BIf (!isNilI e93) (
          K e93 w92) (
          ∃ p94 : Option Addr, World.cell? w92 (⟨r2, 0, none⟩ : Addr) = some (Value.pointer p94) ∧
          needSome p94 fun a95 =>
          ∃ m96 : Option Nat, World.cell? w92 (a95.add 2) = some (Value.map m96) ∧
          ∃ (mb97 : Nat) (es98 : Array MapEntry) (ck99 : Nat) (es100 : Array MapEntry), m96 = some mb97 ∧ (World.heap (w92))[mb97]? = some (.map es98 ck99) ∧ mapDel (.int .i64) (Value.int .i64 n53) es98 = some es100 ∧ ∀ w101 : World, w101 = setObjW w92 mb97 (.map es100 ck99) →
          inR .i64 (i12 + (1 : Int)) ∧
          (I10 ((i12 + (1 : Int))) w101 ∧ mu11 ((i12 + (1 : Int))) w101 < mu11 i12 w13)))) (
      K Value.nilIface w13))

theorem unit_Unit_reclaim_eq (u1 : Option Addr) (w : World) (K : Value → World → Prop) : unit_Unit_reclaim u1 w K = denF Tryd.prog callB Tryd.f22 (.two .none (.two (.two .none (.one (.loop [(12, (Sh.int .i64))] [2, 4, 5, 13, 14, 15, 16, 17, 18, 19, 20, 21, 22, 23, 24, 25, 26, 27, 28, 29, 30, 31, 32, 33, 34, 35, 36, 37, 38, 39, 40, 41, 42, 43, 44, 45, 46, 47] (.two .none (.two .none (.two (.one (.two .none (.cut [] [2, 16, 17, 18, 19, 20, 21, 22, 23, 24, 25, 26, 27, 28, 29, 30, 31, 32] .none .none))) .none)))))) .none)) [(Value.pointer u1)] w K := by kernel_rfl
theorem unit_Unit_reclaim_ok (u1 : Option Addr) {w : World} {R : Ending → World → Prop} (h : unit_Unit_reclaim u1 w fun v w' => R (.returned v) w') : Calls Tryd.prog fn_unit_Unit_reclaim ⟨[(Value.pointer u1)]⟩ w R :=
  calls_of_den callB_ok mixed Tryd.func22 (unit_Unit_reclaim_eq u1 w _ ▸ h)

/-- (*tidewater/unit.Unit).Trim -/
def unit_Unit_Trim (u1 : Option Addr) (epoch2 : Int) (to3 : Int) (w : World) (K : Value → World → Prop) : Prop :=
  Calls Tryd.prog fn_unit_Unit_check ⟨[(Value.pointer u1), (Value.int .i64 epoch2), (Value.int .i64 to3), (Value.int .i64 (4096 : Int))]⟩ w fun e4 w5 =>
  ∃ e6 : Value, e4 = .returned e6 ∧
  isI e6 ∧
  BIf (!isNilI e6) (
    K e6 w5) (
    needSome u1 fun a7 =>
    ∃ n8 : Int, World.cell? w5 (a7.add 3) = some (Value.int .i64 n8) ∧
    BIf (decide (to3 ≤ n8)) (
      K Value.nilIface w5) (
      Calls Tryd.prog fn_unit_Unit_record ⟨[(Value.pointer u1), (Value.int .i64 (2 : Int)), (Value.int .i64 to3), (Slc.v (⟨none, 0, 0⟩ : Slc))]⟩ w5 fun e9 w10 =>
      ∃ n11 : Int, ∃ e12 : Value, e9 = .returned (Value.tuple ⟨[(Value.int .i64 n11), e12]⟩) ∧
      isI e12 ∧
      BIf (!isNilI e12) (
        K e12 w10) (
        needSome u1 fun a13 =>
        canW w10 (a13.add 3) 1 ∧ ∀ w14 : World, w14 = World.setCell w10 (a13.add 3) (Value.int .i64 to3) →
        Calls Tryd.prog fn_unit_Unit_forget ⟨[(Value.pointer u1)]⟩ w14 fun e15 w16 =>
        e15 = .returned (Value.tuple #[]) ∧
        Calls Tryd.prog fn_unit_Unit_reclaim ⟨[(Value.pointer u1)]⟩ w16 fun e17 w18 =>
        ∃ e19 : Value, e17 = .returned e19 ∧
        K e19 w18)))

theorem unit_Unit_Trim_eq (u1 : Option Addr) (epoch2 : Int) (to3 : Int) (w : World) (K : Value → World → Prop) : unit_Unit_Trim u1 epoch2 to3 w K = denF Tryd.prog callB Tryd.f9 .none [(Value.pointer u1), (Value.int .i64 epoch2), (Value.int .i64 to3)] w K := by kernel_rfl
theorem unit_Unit_Trim_ok (u1 : Option Addr) (epoch2 : Int) (to3 : Int) {w : World} {R : Ending → World → Prop} (h : unit_Unit_Trim u1 epoch2 to3 w fun v w' => R (.returned v) w') : Calls Tryd.prog fn_unit_Unit_Trim ⟨[(Value.pointer u1), (Value.int .i64 epoch2), (Value.int .i64 to3)]⟩ w R :=
  calls_of_den callB_ok mixed Tryd.func9 (unit_Unit_Trim_eq u1 epoch2 to3 w _ ▸ h)

/-- (*tidewater/unit.Unit).Seal -/
def unit_Unit_Seal (u1 : Option Addr) (epoch2 : Int) (w : World) (K : Value → World → Prop) : Prop :=
  ∃ J3 : (Bool) → World → Prop,
  (
    BIf (decide (epoch2 < (0 : Int))) (
      J3 (true) w) (
      J3 ((decide ((1073741824 : Int) < epoch2))) w)) ∧ (
  ∀ x4 : Bool, ∀ w5 : World, J3 x4 w5 → ∀ u6 u7 u8 u9 u10 u11 : Value,
    BIf x4 (
      ∃ v12 : Value, World.cell? (World.drew w5) (⟨gl_ErrEpoch, 0, none⟩ : Addr) = some v12 ∧
      K (Value.tuple ⟨[(Value.int .i64 (0 : Int)), v12]⟩) (World.drew w5)) (
      needSome u1 fun a13 =>
      ∃ n14 : Int, World.cell? w5 (a13.add 4) = some (Value.int .i64 n14) ∧
      BIf (decide (epoch2 < n14)) (
        ∃ v15 : Value, World.cell? (World.drew w5) (⟨gl_ErrSealed, 0, none⟩ : Addr) = some v15 ∧
        K (Value.tuple ⟨[(Value.int .i64 (0 : Int)), v15]⟩) (World.drew w5)) (
        needSome u1 fun a16 =>
        ∃ n17 : Int, World.cell? w5 (a16.add 4) = some (Value.int .i64 n17) ∧
        BIf (decide (n17 < epoch2)) (
          Calls Tryd.prog fn_unit_Unit_record ⟨[(Value.pointer u1), (Value.int .i64 (3 : Int)), (Value.int .i64 epoch2), (Slc.v (⟨none, 0, 0⟩ : Slc))]⟩ w5 fun e18 w19 =>
          ∃ n20 : Int, ∃ e21 : Value, e18 = .returned (Value.tuple ⟨[(Value.int .i64 n20), e21]⟩) ∧
          isI e21 ∧
          BIf (!isNilI e21) (
            K (Value.tuple ⟨[(Value.int .i64 (0 : Int)), e21]⟩) w19) (
            needSome u1 fun a22 =>
            canW w19 (a22.add 4) 1 ∧ ∀ w23 : World, w23 = World.setCell w19 (a22.add 4) (Value.int .i64 epoch2) →
            Calls Tryd.prog fn_unit_Unit_Tail ⟨[(Value.pointer u1)]⟩ w23 fun e24 w25 =>
            ∃ n26 : Int, e24 = .returned (Value.int .i64 n26) ∧
            K (Value.tuple ⟨[(Value.int .i64 n26), Value.nilIface]⟩) w25)) (
          Calls Tryd.prog fn_unit_Unit_Tail ⟨[(Value.pointer u1)]⟩ w5 fun e27 w28 =>
          ∃ n29 : Int, e27 = .returned (Value.int .i64 n29) ∧
          K (Value.tuple ⟨[(Value.int .i64 n29), Value.nilIface]⟩) w28))))

theorem unit_Unit_Seal_eq (u1 : Option Addr) (epoch2 : Int) (w : World) (K : Value → World → Prop) : unit_Unit_Seal u1 epoch2 w K = denF Tryd.prog callB Tryd.f10 (.two .none (.two (.one (.cut [(8, Sh.bool)] [9, 10, 11, 12, 13, 14] .none .none)) .none)) [(Value.pointer u1), (Value.int .i64 epoch2)] w K := by kernel_rfl
theorem unit_Unit_Seal_ok (u1 : Option Addr) (epoch2 : Int) {w : World} {R : Ending → World → Prop} (h : unit_Unit_Seal u1 epoch2 w fun v w' => R (.returned v) w') : Calls Tryd.prog fn_unit_Unit_Seal ⟨[(Value.pointer u1), (Value.int .i64 epoch2)]⟩ w R :=
  calls_of_den callB_ok mixed Tryd.func10 (unit_Unit_Seal_eq u1 epoch2 w _ ▸ h)

/-- (*tidewater/unit.Unit).Epoch -/
def unit_Unit_Epoch (u1 : Option Addr) (w : World) (K : Value → World → Prop) : Prop :=
  needSome u1 fun a2 =>
  ∃ n3 : Int, World.cell? w (a2.add 4) = some (Value.int .i64 n3) ∧
  K (Value.int .i64 n3) w

theorem unit_Unit_Epoch_eq (u1 : Option Addr) (w : World) (K : Value → World → Prop) : unit_Unit_Epoch u1 w K = denF Tryd.prog callB Tryd.f6 .none [(Value.pointer u1)] w K := by kernel_rfl
theorem unit_Unit_Epoch_ok (u1 : Option Addr) {w : World} {R : Ending → World → Prop} (h : unit_Unit_Epoch u1 w fun v w' => R (.returned v) w') : Calls Tryd.prog fn_unit_Unit_Epoch ⟨[(Value.pointer u1)]⟩ w R :=
  calls_of_den callB_ok mixed Tryd.func6 (unit_Unit_Epoch_eq u1 w _ ▸ h)

/-- (*tidewater/unit.Unit).Tail -/
def unit_Unit_Tail (u1 : Option Addr) (w : World) (K : Value → World → Prop) : Prop :=
  needSome u1 fun a2 =>
  ∃ n3 : Int, World.cell? (World.drew w) (a2.add 5) = some (Value.int .i64 n3) ∧
  needSome u1 fun a4 =>
  ∃ n5 : Int, World.cell? (World.drew w) (a4.add 3) = some (Value.int .i64 n5) ∧
  K (Value.int .i64 (if n5 > n3 then n5 else n3)) (World.drew w)

theorem unit_Unit_Tail_eq (u1 : Option Addr) (w : World) (K : Value → World → Prop) : unit_Unit_Tail u1 w K = denF Tryd.prog callB Tryd.f12 .none [(Value.pointer u1)] w K := by kernel_rfl
theorem unit_Unit_Tail_ok (u1 : Option Addr) {w : World} {R : Ending → World → Prop} (h : unit_Unit_Tail u1 w fun v w' => R (.returned v) w') : Calls Tryd.prog fn_unit_Unit_Tail ⟨[(Value.pointer u1)]⟩ w R :=
  calls_of_den callB_ok mixed Tryd.func12 (unit_Unit_Tail_eq u1 w _ ▸ h)

end Go.D
