/-
  WHAT IS PROVED: verification conditions of functions of this program, each with its soundness. No further conditions.
-/
import Derived.Test.YtbeciidagekppaaDoorBase
set_option linter.unusedSimpArgs false
set_option maxRecDepth 100000
set_option linter.unusedVariables false
namespace Go.D
open Go Go.Proofs
/-- (*tidewater/segs.Store).free$1 -/
def segs_Store_free_1 (g1 : Option Addr) (cap2 : Option Addr) (w : World) (K : Value → World → Prop) : Prop :=
  needSome g1 fun a3 =>
  ∃ n4 : Int, World.cell? (World.drew w) a3 = some (Value.int .i64 n4) ∧
  needSome cap2 fun a5 =>
  ∃ n6 : Int, World.cell? (World.drew w) a5 = some (Value.int .i64 n6) ∧
  K (Value.bool (decide (n4 = n6))) (World.drew w)

theorem segs_Store_free_1_eq (g1 : Option Addr) (cap2 : Option Addr) (w : World) (K : Value → World → Prop) : segs_Store_free_1 g1 cap2 w K = denF Tryd.prog callB Tryd.f79 .none [(Value.pointer g1), (Value.pointer cap2)] w K := by kernel_rfl
theorem segs_Store_free_1_ok (g1 : Option Addr) (cap2 : Option Addr) {w : World} {R : Ending → World → Prop} (h : segs_Store_free_1 g1 cap2 w fun v w' => R (.returned v) w') : Calls Tryd.prog fn_segs_Store_free_1 ⟨[(Value.pointer g1), (Value.pointer cap2)]⟩ w R :=
  calls_of_den callB_ok mixed Tryd.func79 (segs_Store_free_1_eq g1 cap2 w _ ▸ h)

/-- slices.ContainsFunc[[]*tidewater/segs.segment,*tidewater/segs.segment] -/
def slices_ContainsFunc_segment_segs_Store_free_1 (s1 : Slc) (c2 : Option Addr) (w : World) (K : Value → World → Prop) : Prop :=
  Calls Tryd.prog fn_slices_IndexFunc_segment ⟨[(Slc.v s1), (Value.func (.func 79) ⟨[]⟩ ⟨[(Value.pointer c2)]⟩)]⟩ w fun e3 w4 =>
  ∃ n5 : Int, e3 = .returned (Value.int .i64 n5) ∧
  K (Value.bool (decide ((0 : Int) ≤ n5))) w4

theorem slices_ContainsFunc_segment_segs_Store_free_1_eq (s1 : Slc) (c2 : Option Addr) (w : World) (K : Value → World → Prop) : slices_ContainsFunc_segment_segs_Store_free_1 s1 c2 w K = denF Tryd.prog callB Tryd.f78 .none [(Slc.v s1), (Value.func (.func 79) ⟨[]⟩ ⟨[(Value.pointer c2)]⟩)] w K := by kernel_rfl
theorem slices_ContainsFunc_segment_segs_Store_free_1_ok (s1 : Slc) (c2 : Option Addr) {w : World} {R : Ending → World → Prop} (h : slices_ContainsFunc_segment_segs_Store_free_1 s1 c2 w fun v w' => R (.returned v) w') : Calls Tryd.prog fn_slices_ContainsFunc_segment ⟨[(Slc.v s1), (Value.func (.func 79) ⟨[]⟩ ⟨[(Value.pointer c2)]⟩)]⟩ w R :=
  calls_of_den callB_ok mixed Tryd.func78 (slices_ContainsFunc_segment_segs_Store_free_1_eq s1 c2 w _ ▸ h)

/-- slices.IndexFunc[[]*tidewater/segs.segment,*tidewater/segs.segment] -/
def slices_IndexFunc_segment_segs_Store_free_1 (s1 : Slc) (c2 : Option Addr) (w : World) (K : Value → World → Prop) : Prop :=
  ∃ (I3 : (Int) → World → Prop) (mu4 : (Int) → World → Nat), I3 ((0 : Int)) w ∧ (
  ∀ i5 : Int, ∀ w6 : World, I3 i5 w6 → ∀ u7 u8 u9 u10 u11 u12 u13 u14 u15 u16 u17 u18 : Value,
    BIf (decide (i5 < ((s1.l : Nat) : Int))) (
      needSome s1.p fun a19 =>
      0 ≤ i5 ∧ i5 < ((s1.l : Nat) : Int) ∧
      ∃ p20 : Option Addr, World.cell? w6 (Addr.add a19 ((Int.toNat i5) * 1)) = some (Value.pointer p20) ∧
      Calls Tryd.prog fn_segs_Store_free_1 ⟨[(Value.pointer p20), (Value.pointer c2)]⟩ w6 fun e21 w22 =>
      ∃ b23 : Bool, e21 = .returned (Value.bool b23) ∧
      BIf b23 (
        K (Value.int .i64 i5) w22) (
        inR .i64 (i5 + (1 : Int)) ∧
        (I3 ((i5 + (1 : Int))) w22 ∧ mu4 ((i5 + (1 : Int))) w22 < mu4 i5 w6))) (
      K (Value.int .i64 (-1 : Int)) w6))

theorem slices_IndexFunc_segment_segs_Store_free_1_eq (s1 : Slc) (c2 : Option Addr) (w : World) (K : Value → World → Prop) : slices_IndexFunc_segment_segs_Store_free_1 s1 c2 w K = denF Tryd.prog callB Tryd.f65 (.two .none (.two (.two .none (.one (.loop [(8, (Sh.int .i64))] [4, 5, 9, 10, 11, 12, 13, 14, 15, 16, 17, 18] .none))) .none)) [(Slc.v s1), (Value.func (.func 79) ⟨[]⟩ ⟨[(Value.pointer c2)]⟩)] w K := by kernel_rfl
theorem slices_IndexFunc_segment_segs_Store_free_1_ok (s1 : Slc) (c2 : Option Addr) {w : World} {R : Ending → World → Prop} (h : slices_IndexFunc_segment_segs_Store_free_1 s1 c2 w fun v w' => R (.returned v) w') : Calls Tryd.prog fn_slices_IndexFunc_segment ⟨[(Slc.v s1), (Value.func (.func 79) ⟨[]⟩ ⟨[(Value.pointer c2)]⟩)]⟩ w R :=
  calls_of_den callB_ok mixed Tryd.func65 (slices_IndexFunc_segment_segs_Store_free_1_eq s1 c2 w _ ▸ h)

/-- (*tidewater/segs.Store).free -/
def segs_Store_free (s1 : Option Addr) (w : World) (K : Value → World → Prop) : Prop :=
  Calls Tryd.prog fn_segs_Store_many ⟨[(Value.pointer s1)]⟩ w fun e2 w3 =>
  ∃ n4 : Int, e2 = .returned (Value.int .i64 n4) ∧
  ∃ (I5 : (Int) → World → Prop) (mu6 : (Int) → World → Nat), I5 ((0 : Int)) w3 ∧ (
  ∀ i7 : Int, ∀ w8 : World, I5 i7 w8 → ∀ u9 u10 u11 u12 u13 u14 u15 u16 u17 u18 u19 u20 u21 : Value,
    BIf (decide (i7 < n4)) (
      newS w8 (.cells ⟨[(Value.int .i64 (0 : Int))]⟩ 3) fun r22 w23 =>
      canW w23 (⟨r22, 0, none⟩ : Addr) 1 ∧ ∀ w24 : World, w24 = World.setCell w23 (⟨r22, 0, none⟩ : Addr) (Value.int .i64 i7) →
      needSome s1 fun a25 =>
      ∃ s26 : Slc, World.cell? w24 (a25.add 1) = some (Slc.v s26) ∧
      Calls Tryd.prog fn_slices_ContainsFunc_segment ⟨[(Slc.v s26), (Value.func (.func 79) ⟨[]⟩ ⟨[(Value.pointer (some (⟨r22, 0, none⟩ : Addr)))]⟩)]⟩ w24 fun e27 w28 =>
      ∃ b29 : Bool, e27 = .returned (Value.bool b29) ∧
      BIf (!b29) (
        ∃ n30 : Int, World.cell? w28 (⟨r22, 0, none⟩ : Addr) = some (Value.int .i64 n30) ∧
        K (Value.int .i64 n30) w28) (
        inR .i64 (i7 + (1 : Int)) ∧
        (I5 ((i7 + (1 : Int))) w28 ∧ mu6 ((i7 + (1 : Int))) w28 < mu6 i7 w8))) (
      K (Value.int .i64 (-1 : Int)) w8))

theorem segs_Store_free_eq (s1 : Option Addr) (w : World) (K : Value → World → Prop) : segs_Store_free s1 w K = denF Tryd.prog callB Tryd.f69 (.two .none (.two (.two .none (.one (.loop [(6, (Sh.int .i64))] [2, 3, 7, 8, 9, 10, 11, 12, 13, 14, 15, 16, 17] .none))) .none)) [(Value.pointer s1)] w K := by kernel_rfl
theorem segs_Store_free_ok (s1 : Option Addr) {w : World} {R : Ending → World → Prop} (h : segs_Store_free s1 w fun v w' => R (.returned v) w') : Calls Tryd.prog fn_segs_Store_free ⟨[(Value.pointer s1)]⟩ w R :=
  calls_of_den callB_ok mixed Tryd.func69 (segs_Store_free_eq s1 w _ ▸ h)

/-- (*tidewater/segs.Store).take -/
def segs_Store_take (s1 : Option Addr) (w : World) (K : Value → World → Prop) : Prop :=
  Calls Tryd.prog fn_segs_Store_free ⟨[(Value.pointer s1)]⟩ w fun e2 w3 =>
  ∃ n4 : Int, e2 = .returned (Value.int .i64 n4) ∧
  BIf (decide (n4 < (0 : Int))) (
    ∃ v5 : Value, World.cell? w3 (⟨gl_ErrFull, 0, none⟩ : Addr) = some v5 ∧
    K v5 w3) (
    ∃ (I6 : (Int) → World → Prop) (mu7 : (Int) → World → Nat), I6 ((0 : Int)) w3 ∧ (
    ∀ i8 : Int, ∀ w9 : World, I6 i8 w9 → ∀ u10 u11 u12 u13 u14 u15 u16 u17 u18 u19 u20 u21 u22 u23 : Value,
      BIf (decide (i8 < (64 : Int))) (
        0 ≤ (64 : Int) ∧ (64 : Int) ≤ (64 : Int) ∧ (64 : Int) ≤ 2 ^ 30 ∧
        newS w9 (.cells ⟨repl 64 [(Value.int .u8 (0 : Int))]⟩ 5) fun r24 w25 =>
        Calls Tryd.prog fn_segs_Store_write ⟨[(Value.pointer s1), (Value.int .i64 n4), (Value.int .i64 i8), (Slc.v (⟨(some (⟨r24, 0, none⟩ : Addr)), 64, 64⟩ : Slc))]⟩ w25 fun e26 w27 =>
        ∃ e28 : Value, e26 = .returned e28 ∧
        isI e28 ∧
        BIf (!isNilI e28) (
          K e28 w27) (
          inR .i64 (i8 + (1 : Int)) ∧
          (I6 ((i8 + (1 : Int))) w27 ∧ mu7 ((i8 + (1 : Int))) w27 < mu7 i8 w9))) (
        needSome s1 fun a29 =>
        ∃ p30 : Option Addr, World.cell? w9 a29 = some (Value.pointer p30) ∧
        Calls Tryd.prog fn_disk_Device_Flush ⟨[(Value.pointer p30)]⟩ w9 fun e31 w32 =>
        ∃ e33 : Value, e31 = .returned e33 ∧
        isI e33 ∧
        BIf (!isNilI e33) (
          K e33 w32) (
          Calls Tryd.prog fn_segs_Store_Last ⟨[(Value.pointer s1)]⟩ w32 fun e34 w35 =>
          ∃ n36 : Int, e34 = .returned (Value.int .i64 n36) ∧
          inR .i64 (n36 + (1 : Int)) ∧
          Calls Tryd.prog fn_segs_head ⟨[(Value.int .i64 (n36 + (1 : Int))), (Value.int .u8 (1 : Int))]⟩ w35 fun e37 w38 =>
          ∃ s39 : Slc, e37 = .returned (Slc.v s39) ∧
          Calls Tryd.prog fn_segs_Store_sure ⟨[(Value.pointer s1), (Value.int .i64 n4), (Value.int .i64 (0 : Int)), (Slc.v s39)]⟩ w38 fun e40 w41 =>
          ∃ e42 : Value, e40 = .returned e42 ∧
          isI e42 ∧
          BIf (!isNilI e42) (
            K e42 w41) (
            needSome s1 fun a43 =>
            ∃ s44 : Slc, World.cell? w41 (a43.add 1) = some (Slc.v s44) ∧
            newS w41 (.cells ⟨[(Value.int .i64 n4), (Value.int .i64 (n36 + (1 : Int))), (Slc.v (⟨none, 0, 0⟩ : Slc)), (Value.int .i64 (1 : Int))]⟩ 99) fun r45 w46 =>
            newS w46 (.cells ⟨[(Value.pointer (some (⟨r45, 0, none⟩ : Addr)))]⟩ 93) fun r47 w48 =>
            appendS 1 93 [(Value.pointer none)] w48 s44 (.slc (⟨(some (⟨r47, 0, none⟩ : Addr)), 1, 1⟩ : Slc)) fun s49 w50 =>
            needSome s1 fun a51 =>
            canW w50 (a51.add 1) 1 ∧ ∀ w52 : World, w52 = World.setCell w50 (a51.add 1) (Slc.v s49) →
            K Value.nilIface w52)))))

theorem segs_Store_take_eq (s1 : Option Addr) (w : World) (K : Value → World → Prop) : segs_Store_take s1 w K = denF Tryd.prog callB Tryd.f52 (.two .none (.two .none (.two .none (.two (.two .none (.one (.loop [(14, (Sh.int .i64))] [2, 4, 5, 15, 16, 17, 18, 19, 20, 21, 22, 23, 24, 25] .none))) .none)))) [(Value.pointer s1)] w K := by kernel_rfl
theorem segs_Store_take_ok (s1 : Option Addr) {w : World} {R : Ending → World → Prop} (h : segs_Store_take s1 w fun v w' => R (.returned v) w') : Calls Tryd.prog fn_segs_Store_take ⟨[(Value.pointer s1)]⟩ w R :=
  calls_of_den callB_ok mixed Tryd.func52 (segs_Store_take_eq s1 w _ ▸ h)

/-- (*tidewater/segs.Store).Append -/
def segs_Store_Append (s1 : Option Addr) (b2 : Slc) (w : World) (K : Value → World → Prop) : Prop :=
  newS w (.cells ⟨[(Value.pointer s1)]⟩ 50) fun r3 w4 =>
  newS w4 (.cells ⟨[(Value.int .i64 (0 : Int))]⟩ 3) fun r5 w6 =>
  newS w6 (.cells ⟨[Value.nilIface]⟩ 34) fun r7 w8 =>
  ∃ J9 : World → Prop,
  (
    BIf (decide (((b2.l : Nat) : Int) = (0 : Int))) (
      ∃ v10 : Value, World.cell? (World.drew w8) (⟨gl_ErrForm, 0, none⟩ : Addr) = some v10 ∧
      canW (World.drew w8) (⟨r5, 0, none⟩ : Addr) 1 ∧ ∀ w11 : World, w11 = World.setCell (World.drew w8) (⟨r5, 0, none⟩ : Addr) (Value.int .i64 (0 : Int)) →
      (∃ v12 : Value, World.cell? w11 (⟨gl_ErrForm, 0, none⟩ : Addr) = some v12 ∧
      v12 = v10) ∧
      oneK v10 (
      oneK v10 (
      canW w11 (⟨r7, 0, none⟩ : Addr) 1 ∧ ∀ w13 : World, w13 = World.setCell w11 (⟨r7, 0, none⟩ : Addr) v10 →
      ∃ n14 : Int, World.cell? w13 (⟨r5, 0, none⟩ : Addr) = some (Value.int .i64 n14) ∧
      ∃ v15 : Value, World.cell? w13 (⟨r7, 0, none⟩ : Addr) = some v15 ∧
      K (Value.tuple ⟨[(Value.int .i64 n14), v15]⟩) w13))) (
      BIf (decide ((3968 : Int) < ((b2.l : Nat) : Int))) (
        ∃ v16 : Value, World.cell? (World.drew w8) (⟨gl_ErrForm, 0, none⟩ : Addr) = some v16 ∧
        canW (World.drew w8) (⟨r5, 0, none⟩ : Addr) 1 ∧ ∀ w17 : World, w17 = World.setCell (World.drew w8) (⟨r5, 0, none⟩ : Addr) (Value.int .i64 (0 : Int)) →
        (∃ v18 : Value, World.cell? w17 (⟨gl_ErrForm, 0, none⟩ : Addr) = some v18 ∧
        v18 = v16) ∧
        oneK v16 (
        oneK v16 (
        canW w17 (⟨r7, 0, none⟩ : Addr) 1 ∧ ∀ w19 : World, w19 = World.setCell w17 (⟨r7, 0, none⟩ : Addr) v16 →
        ∃ n20 : Int, World.cell? w19 (⟨r5, 0, none⟩ : Addr) = some (Value.int .i64 n20) ∧
        ∃ v21 : Value, World.cell? w19 (⟨r7, 0, none⟩ : Addr) = some v21 ∧
        K (Value.tuple ⟨[(Value.int .i64 n20), v21]⟩) w19))) (
        J9 w8))) ∧ (
  ∀ w22 : World, J9 w22 → ∀ u23 u24 u25 u26 u27 u28 u29 u30 u31 : Value,
    ∃ p32 : Option Addr, World.cell? w22 (⟨r3, 0, none⟩ : Addr) = some (Value.pointer p32) ∧
    needSome p32 fun a33 =>
    ∃ s34 : Slc, World.cell? w22 (a33.add 1) = some (Slc.v s34) ∧
    ∃ J35 : World → Prop,
    (
      BIf (decide (((s34.l : Nat) : Int) = (0 : Int))) (
        ∃ p36 : Option Addr, World.cell? (World.drew w22) (⟨r3, 0, none⟩ : Addr) = some (Value.pointer p36) ∧
        Calls Tryd.prog fn_segs_Store_take ⟨[(Value.pointer p36)]⟩ (World.drew w22) fun e37 w38 =>
        ∃ e39 : Value, e37 = .returned e39 ∧
        isI e39 ∧
        BIf (!isNilI e39) (
          canW w38 (⟨r5, 0, none⟩ : Addr) 1 ∧ ∀ w40 : World, w40 = World.setCell w38 (⟨r5, 0, none⟩ : Addr) (Value.int .i64 (0 : Int)) →
          oneK e39 (
          oneK e39 (
          canW w40 (⟨r7, 0, none⟩ : Addr) 1 ∧ ∀ w41 : World, w41 = World.setCell w40 (⟨r7, 0, none⟩ : Addr) e39 →
          ∃ n42 : Int, World.cell? w41 (⟨r5, 0, none⟩ : Addr) = some (Value.int .i64 n42) ∧
          ∃ v43 : Value, World.cell? w41 (⟨r7, 0, none⟩ : Addr) = some v43 ∧
          K (Value.tuple ⟨[(Value.int .i64 n42), v43]⟩) w41))) (
          J35 w38)) (
        ∃ p44 : Option Addr, World.cell? (World.drew w22) (⟨r3, 0, none⟩ : Addr) = some (Value.pointer p44) ∧
        needSome p44 fun a45 =>
        ∃ s46 : Slc, World.cell? (World.drew w22) (a45.add 1) = some (Slc.v s46) ∧
        inR .i64 (((s34.l : Nat) : Int) - (1 : Int)) ∧
        needSome s46.p fun a47 =>
        0 ≤ (((s34.l : Nat) : Int) - (1 : Int)) ∧ (((s34.l : Nat) : Int) - (1 : Int)) < ((s46.l : Nat) : Int) ∧
        ∃ p48 : Option Addr, World.cell? (World.drew w22) (Addr.add a47 ((Int.toNat (((s34.l : Nat) : Int) - (1 : Int))) * 1)) = some (Value.pointer p48) ∧
        needSome p48 fun a49 =>
        ∃ n50 : Int, World.cell? (World.drew w22) (a49.add 3) = some (Value.int .i64 n50) ∧
        inR .i64 (n50 + (1 : Int)) ∧
        Calls Tryd.prog fn_segs_sectors ⟨[(Value.int .i64 ((b2.l : Nat) : Int))]⟩ (World.drew w22) fun e51 w52 =>
        ∃ n53 : Int, e51 = .returned (Value.int .i64 n53) ∧
        (∃ n54 : Int, World.cell? w52 (a49.add 3) = some (Value.int .i64 n54) ∧
        (Value.int .i64 n54) = (Value.int .i64 n50)) ∧
        (∃ p55 : Option Addr, World.cell? w52 (Addr.add a47 ((Int.toNat (((s34.l : Nat) : Int) - (1 : Int))) * 1)) = some (Value.pointer p55) ∧
        (Value.pointer p55) = (Value.pointer p48)) ∧
        (∃ s56 : Slc, World.cell? w52 (a45.add 1) = some (Slc.v s56) ∧
        (Slc.v s56) = (Slc.v s46)) ∧
        (∃ p57 : Option Addr, World.cell? w52 (⟨r3, 0, none⟩ : Addr) = some (Value.pointer p57) ∧
        (Value.pointer p57) = (Value.pointer p44)) ∧
        inR .i64 ((n50 + (1 : Int)) + n53) ∧
        BIf (decide ((64 : Int) < ((n50 + (1 : Int)) + n53))) (
          ∃ p58 : Option Addr, World.cell? w52 (⟨r3, 0, none⟩ : Addr) = some (Value.pointer p58) ∧
          Calls Tryd.prog fn_segs_Store_take ⟨[(Value.pointer p58)]⟩ w52 fun e59 w60 =>
          ∃ e61 : Value, e59 = .returned e61 ∧
          isI e61 ∧
          BIf (!isNilI e61) (
            canW w60 (⟨r5, 0, none⟩ : Addr) 1 ∧ ∀ w62 : World, w62 = World.setCell w60 (⟨r5, 0, none⟩ : Addr) (Value.int .i64 (0 : Int)) →
            oneK e61 (
            oneK e61 (
            canW w62 (⟨r7, 0, none⟩ : Addr) 1 ∧ ∀ w63 : World, w63 = World.setCell w62 (⟨r7, 0, none⟩ : Addr) e61 →
            ∃ n64 : Int, World.cell? w63 (⟨r5, 0, none⟩ : Addr) = some (Value.int .i64 n64) ∧
            ∃ v65 : Value, World.cell? w63 (⟨r7, 0, none⟩ : Addr) = some v65 ∧
            K (Value.tuple ⟨[(Value.int .i64 n64), v65]⟩) w63))) (
            J35 w60)) (
          J35 w52))) ∧ (
    ∀ w66 : World, J35 w66 → ∀ u67 u68 u69 u70 u71 u72 u73 u74 u75 u76 u77 u78 u79 u80 u81 u82 u83 u84 u85 u86 u87 u88 u89 u90 u91 u92 u93 : Value,
      ∃ p94 : Option Addr, World.cell? (World.drew w66) (⟨r3, 0, none⟩ : Addr) = some (Value.pointer p94) ∧
      needSome p94 fun a95 =>
      ∃ s96 : Slc, World.cell? (World.drew w66) (a95.add 1) = some (Slc.v s96) ∧
      ∃ p97 : Option Addr, World.cell? (World.drew w66) (⟨r3, 0, none⟩ : Addr) = some (Value.pointer p97) ∧
      needSome p97 fun a98 =>
      ∃ s99 : Slc, World.cell? (World.drew w66) (a98.add 1) = some (Slc.v s99) ∧
      inR .i64 (((s99.l : Nat) : Int) - (1 : Int)) ∧
      needSome s96.p fun a100 =>
      0 ≤ (((s99.l : Nat) : Int) - (1 : Int)) ∧ (((s99.l : Nat) : Int) - (1 : Int)) < ((s96.l : Nat) : Int) ∧
      ∃ p101 : Option Addr, World.cell? (World.drew w66) (Addr.add a100 ((Int.toNat (((s99.l : Nat) : Int) - (1 : Int))) * 1)) = some (Value.pointer p101) ∧
      newS (World.drew w66) (.cells ⟨[(Value.pointer none)]⟩ 93) fun r102 w103 =>
      (∃ p104 : Option Addr, World.cell? w103 (Addr.add a100 ((Int.toNat (((s99.l : Nat) : Int) - (1 : Int))) * 1)) = some (Value.pointer p104) ∧
      (Value.pointer p104) = (Value.pointer p101)) ∧
      (∃ s105 : Slc, World.cell? w103 (a98.add 1) = some (Slc.v s105) ∧
      (Slc.v s105) = (Slc.v s99)) ∧
      (∃ p106 : Option Addr, World.cell? w103 (⟨r3, 0, none⟩ : Addr) = some (Value.pointer p106) ∧
      (Value.pointer p106) = (Value.pointer p97)) ∧
      (∃ s107 : Slc, World.cell? w103 (a95.add 1) = some (Slc.v s107) ∧
      (Slc.v s107) = (Slc.v s96)) ∧
      (∃ p108 : Option Addr, World.cell? w103 (⟨r3, 0, none⟩ : Addr) = some (Value.pointer p108) ∧
      (Value.pointer p108) = (Value.pointer p94)) ∧
      canW w103 (⟨r102, 0, none⟩ : Addr) 1 ∧ ∀ w109 : World, w109 = World.setCell w103 (⟨r102, 0, none⟩ : Addr) (Value.pointer p101) →
      ∃ p110 : Option Addr, World.cell? w109 (⟨r102, 0, none⟩ : Addr) = some (Value.pointer p110) ∧
      needSome p110 fun a111 =>
      ∃ n112 : Int, World.cell? w109 (a111.add 3) = some (Value.int .i64 n112) ∧
      inR .i64 (n112 + (1 : Int)) ∧
      newS w109 (.cells ⟨[(Value.int .i64 (0 : Int))]⟩ 3) fun r113 w114 =>
      canW w114 (⟨r113, 0, none⟩ : Addr) 1 ∧ ∀ w115 : World, w115 = World.setCell w114 (⟨r113, 0, none⟩ : Addr) (Value.int .i64 (n112 + (1 : Int))) →
      Calls Tryd.prog fn_slices_Chunk_byte ⟨[(Slc.v b2), (Value.int .i64 (64 : Int))]⟩ w115 fun e116 w117 =>
      ∃ e118 : Value, e116 = .returned e118 ∧
      ∃ (gf145 : Nat) (first146 cap147 : List Value), e118 = .func (.func gf145) ⟨first146⟩ ⟨cap147⟩ ∧ callB gf145 = true ∧
      ∀ (D119 lr120 : Nat) (rc121 : Rec) (w122 : World), D119 = (World.heap w117).size → lr120 = D119 + 1 → w122 = World.alloc (World.alloc w117 (.deferred (some []))) (.loop (rc121 .ready none)) →
      (∀ s125 : Slc, ∀ (w123 : World) (R124 : Ending → World → Prop), (World.heap w123)[lr120]? = some (.loop (rc121 .ready none)) → (
        (World.heap w123)[lr120]? = some (.loop (rc121 .ready none)) ∧ ∀ w126 : World, w126 = World.putObj w123 lr120 (.loop (rc121 .busy none)) →
        0 ≤ (64 : Int) ∧ (64 : Int) ≤ (64 : Int) ∧ (64 : Int) ≤ 2 ^ 30 ∧
        newS w126 (.cells ⟨repl 64 [(Value.int .u8 (0 : Int))]⟩ 5) fun r127 w128 =>
        copyS 1 w128 (⟨(some (⟨r127, 0, none⟩ : Addr)), 64, 64⟩ : Slc) (.slc s125) fun n129 w130 =>
        ∃ p131 : Option Addr, World.cell? (World.drew w130) (⟨r3, 0, none⟩ : Addr) = some (Value.pointer p131) ∧
        ∃ p132 : Option Addr, World.cell? (World.drew w130) (⟨r102, 0, none⟩ : Addr) = some (Value.pointer p132) ∧
        needSome p132 fun a133 =>
        ∃ n134 : Int, World.cell? (World.drew w130) a133 = some (Value.int .i64 n134) ∧
        ∃ n135 : Int, World.cell? (World.drew w130) (⟨r113, 0, none⟩ : Addr) = some (Value.int .i64 n135) ∧
        Calls Tryd.prog fn_segs_Store_write ⟨[(Value.pointer p131), (Value.int .i64 n134), (Value.int .i64 n135), (Slc.v (⟨(some (⟨r127, 0, none⟩ : Addr)), 64, 64⟩ : Slc))]⟩ (World.drew w130) fun e136 w137 =>
        ∃ e138 : Value, e136 = .returned e138 ∧
        isI e138 ∧
        BIf (!isNilI e138) (
          canW w137 (⟨r5, 0, none⟩ : Addr) 1 ∧ ∀ w139 : World, w139 = World.setCell w137 (⟨r5, 0, none⟩ : Addr) (Value.int .i64 (0 : Int)) →
          oneK e138 (
          oneK e138 (
          canW w139 (⟨r7, 0, none⟩ : Addr) 1 ∧ ∀ w140 : World, w140 = World.setCell w139 (⟨r7, 0, none⟩ : Addr) e138 →
          (World.heap w140)[lr120]? = some (.loop (rc121 .busy none)) ∧ ∀ w141 : World, w141 = World.putObj w140 lr120 (.loop (rc121 .done (some Code.ret))) → R124 (.returned (.bool false)) w141))) (
          ∃ n142 : Int, World.cell? w137 (⟨r113, 0, none⟩ : Addr) = some (Value.int .i64 n142) ∧
          inR .i64 (n142 + (1 : Int)) ∧
          canW w137 (⟨r113, 0, none⟩ : Addr) 1 ∧ ∀ w143 : World, w143 = World.setCell w137 (⟨r113, 0, none⟩ : Addr) (Value.int .i64 (n142 + (1 : Int))) →
          (World.heap w143)[lr120]? = some (.loop (rc121 .busy none)) ∧ ∀ w144 : World, w144 = World.putObj w143 lr120 (.loop (rc121 .ready none)) → R124 (.returned (.bool true)) w144)) → YieldC Tryd.prog lr120 ⟨[(Slc.v s125)]⟩ w123 R124) →
      Calls Tryd.prog gf145 ⟨first146 ++ Value.func (.yield lr120) #[] #[] :: cap147⟩ w122 fun e148 w149 => (∃ v, e148 = .returned v) ∧ (
        ((World.heap w149)[lr120]? = some (.loop (rc121 .done (some Code.ret))) ∧ ∀ w150 : World, w150 = World.putObj w149 lr120 (.loop (rc121 .exhausted (some Code.ret))) →
        (World.heap w150)[D119]? = some (.deferred (some [])) ∧ ∀ w151 : World, w151 = World.putObj w150 D119 (.deferred none) →
        ∃ n152 : Int, World.cell? w151 (⟨r5, 0, none⟩ : Addr) = some (Value.int .i64 n152) ∧
        ∃ v153 : Value, World.cell? w151 (⟨r7, 0, none⟩ : Addr) = some v153 ∧
        K (Value.tuple ⟨[(Value.int .i64 n152), v153]⟩) w151) ∨
        ((World.heap w149)[lr120]? = some (.loop (rc121 .ready none)) ∧ ∀ w154 : World, w154 = World.putObj w149 lr120 (.loop (rc121 .exhausted none)) →
        ∃ J155 : World → Prop,
        (
          ∃ n156 : Int, World.cell? w154 (⟨r113, 0, none⟩ : Addr) = some (Value.int .i64 n156) ∧
          BIf (decide (n156 < (64 : Int))) (
            ∃ p157 : Option Addr, World.cell? (World.drew w154) (⟨r3, 0, none⟩ : Addr) = some (Value.pointer p157) ∧
            ∃ p158 : Option Addr, World.cell? (World.drew w154) (⟨r102, 0, none⟩ : Addr) = some (Value.pointer p158) ∧
            needSome p158 fun a159 =>
            ∃ n160 : Int, World.cell? (World.drew w154) a159 = some (Value.int .i64 n160) ∧
            ∃ n161 : Int, World.cell? (World.drew w154) (⟨r113, 0, none⟩ : Addr) = some (Value.int .i64 n161) ∧
            0 ≤ (64 : Int) ∧ (64 : Int) ≤ (64 : Int) ∧ (64 : Int) ≤ 2 ^ 30 ∧
            newS (World.drew w154) (.cells ⟨repl 64 [(Value.int .u8 (0 : Int))]⟩ 5) fun r162 w163 =>
            (∃ n164 : Int, World.cell? w163 (⟨r113, 0, none⟩ : Addr) = some (Value.int .i64 n164) ∧
            (Value.int .i64 n164) = (Value.int .i64 n161)) ∧
            (∃ n165 : Int, World.cell? w163 a159 = some (Value.int .i64 n165) ∧
            (Value.int .i64 n165) = (Value.int .i64 n160)) ∧
            (∃ p166 : Option Addr, World.cell? w163 (⟨r102, 0, none⟩ : Addr) = some (Value.pointer p166) ∧
            (Value.pointer p166) = (Value.pointer p158)) ∧
            (∃ p167 : Option Addr, World.cell? w163 (⟨r3, 0, none⟩ : Addr) = some (Value.pointer p167) ∧
            (Value.pointer p167) = (Value.pointer p157)) ∧
            Calls Tryd.prog fn_segs_Store_write ⟨[(Value.pointer p157), (Value.int .i64 n160), (Value.int .i64 n161), (Slc.v (⟨(some (⟨r162, 0, none⟩ : Addr)), 64, 64⟩ : Slc))]⟩ w163 fun e168 w169 =>
            ∃ e170 : Value, e168 = .returned e170 ∧
            isI e170 ∧
            BIf (!isNilI e170) (
              canW w169 (⟨r5, 0, none⟩ : Addr) 1 ∧ ∀ w171 : World, w171 = World.setCell w169 (⟨r5, 0, none⟩ : Addr) (Value.int .i64 (0 : Int)) →
              oneK e170 (
              oneK e170 (
              canW w171 (⟨r7, 0, none⟩ : Addr) 1 ∧ ∀ w172 : World, w172 = World.setCell w171 (⟨r7, 0, none⟩ : Addr) e170 →
              (World.heap w172)[D119]? = some (.deferred (some [])) ∧ ∀ w173 : World, w173 = World.putObj w172 D119 (.deferred none) →
              ∃ n174 : Int, World.cell? w173 (⟨r5, 0, none⟩ : Addr) = some (Value.int .i64 n174) ∧
              ∃ v175 : Value, World.cell? w173 (⟨r7, 0, none⟩ : Addr) = some v175 ∧
              K (Value.tuple ⟨[(Value.int .i64 n174), v175]⟩) w173))) (
              J155 w169)) (
            J155 w154)) ∧ (
        ∀ w176 : World, J155 w176 → ∀ u177 u178 u179 u180 u181 u182 u183 u184 u185 u186 u187 u188 u189 u190 : Value,
          ∃ p191 : Option Addr, World.cell? w176 (⟨r3, 0, none⟩ : Addr) = some (Value.pointer p191) ∧
          needSome p191 fun a192 =>
          ∃ p193 : Option Addr, World.cell? w176 a192 = some (Value.pointer p193) ∧
          Calls Tryd.prog fn_disk_Device_Flush ⟨[(Value.pointer p193)]⟩ w176 fun e194 w195 =>
          ∃ e196 : Value, e194 = .returned e196 ∧
          isI e196 ∧
          BIf (!isNilI e196) (
            canW w195 (⟨r5, 0, none⟩ : Addr) 1 ∧ ∀ w197 : World, w197 = World.setCell w195 (⟨r5, 0, none⟩ : Addr) (Value.int .i64 (0 : Int)) →
            oneK e196 (
            oneK e196 (
            canW w197 (⟨r7, 0, none⟩ : Addr) 1 ∧ ∀ w198 : World, w198 = World.setCell w197 (⟨r7, 0, none⟩ : Addr) e196 →
            (World.heap w198)[D119]? = some (.deferred (some [])) ∧ ∀ w199 : World, w199 = World.putObj w198 D119 (.deferred none) →
            ∃ n200 : Int, World.cell? w199 (⟨r5, 0, none⟩ : Addr) = some (Value.int .i64 n200) ∧
            ∃ v201 : Value, World.cell? w199 (⟨r7, 0, none⟩ : Addr) = some v201 ∧
            K (Value.tuple ⟨[(Value.int .i64 n200), v201]⟩) w199))) (
            ∃ p202 : Option Addr, World.cell? (World.drew w195) (⟨r3, 0, none⟩ : Addr) = some (Value.pointer p202) ∧
            ∃ p203 : Option Addr, World.cell? (World.drew w195) (⟨r102, 0, none⟩ : Addr) = some (Value.pointer p203) ∧
            needSome p203 fun a204 =>
            ∃ n205 : Int, World.cell? (World.drew w195) a204 = some (Value.int .i64 n205) ∧
            ∃ p206 : Option Addr, World.cell? (World.drew w195) (⟨r102, 0, none⟩ : Addr) = some (Value.pointer p206) ∧
            needSome p206 fun a207 =>
            ∃ n208 : Int, World.cell? (World.drew w195) (a207.add 3) = some (Value.int .i64 n208) ∧
            Calls Tryd.prog fn_segs_head ⟨[(Value.int .i64 ((b2.l : Nat) : Int)), (Value.int .u8 (1 : Int))]⟩ (World.drew w195) fun e209 w210 =>
            ∃ s211 : Slc, e209 = .returned (Slc.v s211) ∧
            (∃ n212 : Int, World.cell? w210 (a207.add 3) = some (Value.int .i64 n212) ∧
            (Value.int .i64 n212) = (Value.int .i64 n208)) ∧
            (∃ p213 : Option Addr, World.cell? w210 (⟨r102, 0, none⟩ : Addr) = some (Value.pointer p213) ∧
            (Value.pointer p213) = (Value.pointer p206)) ∧
            (∃ n214 : Int, World.cell? w210 a204 = some (Value.int .i64 n214) ∧
            (Value.int .i64 n214) = (Value.int .i64 n205)) ∧
            (∃ p215 : Option Addr, World.cell? w210 (⟨r102, 0, none⟩ : Addr) = some (Value.pointer p215) ∧
            (Value.pointer p215) = (Value.pointer p203)) ∧
            (∃ p216 : Option Addr, World.cell? w210 (⟨r3, 0, none⟩ : Addr) = some (Value.pointer p216) ∧
            (Value.pointer p216) = (Value.pointer p202)) ∧
            Calls Tryd.prog fn_segs_Store_sure ⟨[(Value.pointer p202), (Value.int .i64 n205), (Value.int .i64 n208), (Slc.v s211)]⟩ w210 fun e217 w218 =>
            ∃ e219 : Value, e217 = .returned e219 ∧
            isI e219 ∧
            BIf (!isNilI e219) (
              canW w218 (⟨r5, 0, none⟩ : Addr) 1 ∧ ∀ w220 : World, w220 = World.setCell w218 (⟨r5, 0, none⟩ : Addr) (Value.int .i64 (0 : Int)) →
              oneK e219 (
              oneK e219 (
              canW w220 (⟨r7, 0, none⟩ : Addr) 1 ∧ ∀ w221 : World, w221 = World.setCell w220 (⟨r7, 0, none⟩ : Addr) e219 →
              (World.heap w221)[D119]? = some (.deferred (some [])) ∧ ∀ w222 : World, w222 = World.putObj w221 D119 (.deferred none) →
              ∃ n223 : Int, World.cell? w222 (⟨r5, 0, none⟩ : Addr) = some (Value.int .i64 n223) ∧
              ∃ v224 : Value, World.cell? w222 (⟨r7, 0, none⟩ : Addr) = some v224 ∧
              K (Value.tuple ⟨[(Value.int .i64 n223), v224]⟩) w222))) (
              ∃ p225 : Option Addr, World.cell? (World.drew w218) (⟨r102, 0, none⟩ : Addr) = some (Value.pointer p225) ∧
              ∃ p226 : Option Addr, World.cell? (World.drew w218) (⟨r102, 0, none⟩ : Addr) = some (Value.pointer p226) ∧
              ∃ p227 : Option Addr, World.cell? (World.drew w218) (⟨r102, 0, none⟩ : Addr) = some (Value.pointer p227) ∧
              needSome p227 fun a228 =>
              ∃ s229 : Slc, World.cell? (World.drew w218) (a228.add 2) = some (Slc.v s229) ∧
              ∃ n230 : Int, World.cell? (World.drew w218) (⟨r113, 0, none⟩ : Addr) = some (Value.int .i64 n230) ∧
              Calls Tryd.prog fn_slices_Clone_byte ⟨[(Slc.v b2)]⟩ (World.drew w218) fun e231 w232 =>
              ∃ s233 : Slc, e231 = .returned (Slc.v s233) ∧
              (∃ n234 : Int, World.cell? w232 (⟨r113, 0, none⟩ : Addr) = some (Value.int .i64 n234) ∧
              (Value.int .i64 n234) = (Value.int .i64 n230)) ∧
              (∃ s235 : Slc, World.cell? w232 (a228.add 2) = some (Slc.v s235) ∧
              (Slc.v s235) = (Slc.v s229)) ∧
              (∃ p236 : Option Addr, World.cell? w232 (⟨r102, 0, none⟩ : Addr) = some (Value.pointer p236) ∧
              (Value.pointer p236) = (Value.pointer p227)) ∧
              (∃ p237 : Option Addr, World.cell? w232 (⟨r102, 0, none⟩ : Addr) = some (Value.pointer p237) ∧
              (Value.pointer p237) = (Value.pointer p226)) ∧
              (∃ p238 : Option Addr, World.cell? w232 (⟨r102, 0, none⟩ : Addr) = some (Value.pointer p238) ∧
              (Value.pointer p238) = (Value.pointer p225)) ∧
              newS w232 (.cells ⟨[(Slc.v s233)]⟩ 36) fun r239 w240 =>
              (∃ n241 : Int, World.cell? w240 (⟨r113, 0, none⟩ : Addr) = some (Value.int .i64 n241) ∧
              (Value.int .i64 n241) = (Value.int .i64 n230)) ∧
              (∃ s242 : Slc, World.cell? w240 (a228.add 2) = some (Slc.v s242) ∧
              (Slc.v s242) = (Slc.v s229)) ∧
              (∃ p243 : Option Addr, World.cell? w240 (⟨r102, 0, none⟩ : Addr) = some (Value.pointer p243) ∧
              (Value.pointer p243) = (Value.pointer p227)) ∧
              (∃ p244 : Option Addr, World.cell? w240 (⟨r102, 0, none⟩ : Addr) = some (Value.pointer p244) ∧
              (Value.pointer p244) = (Value.pointer p226)) ∧
              (∃ p245 : Option Addr, World.cell? w240 (⟨r102, 0, none⟩ : Addr) = some (Value.pointer p245) ∧
              (Value.pointer p245) = (Value.pointer p225)) ∧
              appendS 1 36 [(Slc.v (⟨none, 0, 0⟩ : Slc))] w240 s229 (.slc (⟨(some (⟨r239, 0, none⟩ : Addr)), 1, 1⟩ : Slc)) fun s246 w247 =>
              (∃ n248 : Int, World.cell? w247 (⟨r113, 0, none⟩ : Addr) = some (Value.int .i64 n248) ∧
              (Value.int .i64 n248) = (Value.int .i64 n230)) ∧
              (∃ p249 : Option Addr, World.cell? w247 (⟨r102, 0, none⟩ : Addr) = some (Value.pointer p249) ∧
              (Value.pointer p249) = (Value.pointer p226)) ∧
              (∃ p250 : Option Addr, World.cell? w247 (⟨r102, 0, none⟩ : Addr) = some (Value.pointer p250) ∧
              (Value.pointer p250) = (Value.pointer p225)) ∧
              needSome p225 fun a251 =>
              canW w247 (a251.add 2) 1 ∧ ∀ w252 : World, w252 = World.setCell w247 (a251.add 2) (Slc.v s246) →
              (∃ n253 : Int, World.cell? w252 (⟨r113, 0, none⟩ : Addr) = some (Value.int .i64 n253) ∧
              (Value.int .i64 n253) = (Value.int .i64 n230)) ∧
              (∃ p254 : Option Addr, World.cell? w252 (⟨r102, 0, none⟩ : Addr) = some (Value.pointer p254) ∧
              (Value.pointer p254) = (Value.pointer p226)) ∧
              needSome p226 fun a255 =>
              canW w252 (a255.add 3) 1 ∧ ∀ w256 : World, w256 = World.setCell w252 (a255.add 3) (Value.int .i64 n230) →
              ∃ p257 : Option Addr, World.cell? w256 (⟨r102, 0, none⟩ : Addr) = some (Value.pointer p257) ∧
              needSome p257 fun a258 =>
              ∃ n259 : Int, World.cell? w256 (a258.add 1) = some (Value.int .i64 n259) ∧
              canW w256 (⟨r5, 0, none⟩ : Addr) 1 ∧ ∀ w260 : World, w260 = World.setCell w256 (⟨r5, 0, none⟩ : Addr) (Value.int .i64 n259) →
              canW w260 (⟨r7, 0, none⟩ : Addr) 1 ∧ ∀ w261 : World, w261 = World.setCell w260 (⟨r7, 0, none⟩ : Addr) Value.nilIface →
              (World.heap w261)[D119]? = some (.deferred (some [])) ∧ ∀ w262 : World, w262 = World.putObj w261 D119 (.deferred none) →
              ∃ n263 : Int, World.cell? w262 (⟨r5, 0, none⟩ : Addr) = some (Value.int .i64 n263) ∧
              ∃ v264 : Value, World.cell? w262 (⟨r7, 0, none⟩ : Addr) = some v264 ∧
              K (Value.tuple ⟨[(Value.int .i64 n263), v264]⟩) w262)))))))

theorem segs_Store_Append_eq (s1 : Option Addr) (b2 : Slc) (w : World) (K : Value → World → Prop) : segs_Store_Append s1 b2 w K = denF2 Tryd.prog callB Tryd.f31 (.two .none (.cut [] [16, 17, 18, 19, 20, 21, 22, 23, 24] .none (.two .none (.cut [] [7, 30, 31, 32, 33, 34, 35, 36, 37, 38, 39, 40, 41, 42, 43, 44, 45, 46, 47, 48, 49, 50, 51, 52, 53, 54, 55] .none (.two .none (.two .none (.two (.two .none (.one (.range [.one Sh.slc] [.ret] .none .none))) (.cut [] [13, 93, 94, 95, 96, 97, 98, 99, 100, 101, 102, 103, 104, 105] .none .none)))))))) [(Value.pointer s1), (Slc.v b2)] w K := by kernel_rfl
theorem segs_Store_Append_ok (s1 : Option Addr) (b2 : Slc) {w : World} {R : Ending → World → Prop} (h : segs_Store_Append s1 b2 w fun v w' => R (.returned v) w') : Calls Tryd.prog fn_segs_Store_Append ⟨[(Value.pointer s1), (Slc.v b2)]⟩ w R :=
  calls_of_den2 callB_ok mixed Tryd.func31 (segs_Store_Append_eq s1 b2 w _ ▸ h)

end Go.D
