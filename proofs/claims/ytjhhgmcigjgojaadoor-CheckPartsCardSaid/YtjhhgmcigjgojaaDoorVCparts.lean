/-
  WHAT IS PROVED: verification conditions of functions of this program, each with its soundness. No further conditions.
-/
import Derived.Test.YtjhhgmcigjgojaaDoorBase
set_option linter.unusedSimpArgs false
set_option maxRecDepth 100000
set_option linter.unusedVariables false
namespace Go.D
open Go Go.Proofs
/-- tidewater/check.summed -/
def check_summed (data1 : Slc) (w : World) (K : Value → World → Prop) : Prop :=
  newS w (.cells ⟨[(Slc.v data1)]⟩ 22) fun r2 w3 =>
  Calls Tryd.prog fn_sums_Sum ⟨[(Slc.v (⟨(some (⟨r2, 0, none⟩ : Addr)), 1, 1⟩ : Slc))]⟩ w3 fun e4 w5 =>
  ∃ n6 : Int, e4 = .returned (Value.int .u32 n6) ∧
  0 ≤ (8 : Int) ∧ 0 ≤ n6 ∧
  0 ≤ (16 : Int) ∧ 0 ≤ n6 ∧
  0 ≤ (24 : Int) ∧ 0 ≤ n6 ∧
  newS w5 (.cells ⟨[(Value.int .u8 (IntKind.wrap .u8 n6)), (Value.int .u8 (IntKind.wrap .u8 (n6 / 256))), (Value.int .u8 (IntKind.wrap .u8 (n6 / 65536))), (Value.int .u8 (IntKind.wrap .u8 (n6 / 16777216)))]⟩ 5) fun r7 w8 =>
  appendS 1 5 [(Value.int .u8 (0 : Int))] w8 (⟨(some (⟨r7, 0, none⟩ : Addr)), 4, 4⟩ : Slc) (.slc data1) fun s9 w10 =>
  K (Slc.v s9) w10

theorem check_summed_eq (data1 : Slc) (w : World) (K : Value → World → Prop) : check_summed data1 w K = denF Tryd.prog callB Tryd.f12 .none [(Slc.v data1)] w K := by kernel_rfl
theorem check_summed_ok (data1 : Slc) {w : World} {R : Ending → World → Prop} (h : check_summed data1 w fun v w' => R (.returned v) w') : Calls Tryd.prog fn_check_summed ⟨[(Slc.v data1)]⟩ w R :=
  calls_of_den callB_ok mixed Tryd.func12 (check_summed_eq data1 w _ ▸ h)

/-- tidewater/tidewaterref24.summed -/
def tidewaterref24_summed (b1 : Slc) (w : World) (K : Value → World → Prop) : Prop :=
  Calls Tryd.prog fn_tidewaterref01_Sum ⟨[(Slc.v b1)]⟩ w fun e2 w3 =>
  ∃ n4 : Int, e2 = .returned (Value.int .u32 n4) ∧
  0 ≤ (8 : Int) ∧ 0 ≤ n4 ∧
  0 ≤ (16 : Int) ∧ 0 ≤ n4 ∧
  0 ≤ (24 : Int) ∧ 0 ≤ n4 ∧
  newS w3 (.cells ⟨[(Value.int .u8 (IntKind.wrap .u8 n4)), (Value.int .u8 (IntKind.wrap .u8 (n4 / 256))), (Value.int .u8 (IntKind.wrap .u8 (n4 / 65536))), (Value.int .u8 (IntKind.wrap .u8 (n4 / 16777216)))]⟩ 5) fun r5 w6 =>
  appendS 1 5 [(Value.int .u8 (0 : Int))] w6 (⟨(some (⟨r5, 0, none⟩ : Addr)), 4, 4⟩ : Slc) (.slc b1) fun s7 w8 =>
  K (Slc.v s7) w8

theorem tidewaterref24_summed_eq (b1 : Slc) (w : World) (K : Value → World → Prop) : tidewaterref24_summed b1 w K = denF Tryd.prog callB Tryd.f14 .none [(Slc.v b1)] w K := by kernel_rfl
theorem tidewaterref24_summed_ok (b1 : Slc) {w : World} {R : Ending → World → Prop} (h : tidewaterref24_summed b1 w fun v w' => R (.returned v) w') : Calls Tryd.prog fn_tidewaterref24_summed ⟨[(Slc.v b1)]⟩ w R :=
  calls_of_den callB_ok mixed Tryd.func14 (tidewaterref24_summed_eq b1 w _ ▸ h)

/-- slices.Chunk[[]byte,byte] -/
def slices_Chunk_byte (s1 : Slc) (n2 : Int) (w : World) (K : Value → World → Prop) : Prop :=
  newS w (.cells ⟨[(Slc.v s1)]⟩ 22) fun r3 w4 =>
  newS w4 (.cells ⟨[(Value.int .i64 n2)]⟩ 3) fun r5 w6 =>
  ∃ n7 : Int, World.cell? w6 (⟨r5, 0, none⟩ : Addr) = some (Value.int .i64 n7) ∧
  BIf (decide (n7 < (1 : Int))) (
    False) (
    K (Value.func (.func 18) ⟨[]⟩ ⟨[(Value.pointer (some (⟨r3, 0, none⟩ : Addr))), (Value.pointer (some (⟨r5, 0, none⟩ : Addr)))]⟩) w6)

theorem slices_Chunk_byte_eq (s1 : Slc) (n2 : Int) (w : World) (K : Value → World → Prop) : slices_Chunk_byte s1 n2 w K = denF Tryd.prog callB Tryd.f11 .none [(Slc.v s1), (Value.int .i64 n2)] w K := by kernel_rfl
theorem slices_Chunk_byte_ok (s1 : Slc) (n2 : Int) {w : World} {R : Ending → World → Prop} (h : slices_Chunk_byte s1 n2 w fun v w' => R (.returned v) w') : Calls Tryd.prog fn_slices_Chunk_byte ⟨[(Slc.v s1), (Value.int .i64 n2)]⟩ w R :=
  calls_of_den callB_ok mixed Tryd.func11 (slices_Chunk_byte_eq s1 n2 w _ ▸ h)

/-- slices.Chunk[[]byte,byte]$1 -/
def slices_Chunk_byte_1 (lr1 : Nat) (cap2 : Option Addr) (cap3 : Option Addr) (w : World) (K : Value → World → Prop) : Prop :=
  ∃ (I4 : (Int) → World → Prop) (mu5 : (Int) → World → Nat), I4 ((0 : Int)) w ∧ (
  ∀ i6 : Int, ∀ w7 : World, I4 i6 w7 → ∀ u8 u9 u10 u11 u12 u13 u14 u15 u16 u17 u18 u19 u20 u21 u22 u23 u24 u25 u26 u27 u28 u29 u30 u31 u32 u33 : Value,
    needSome cap2 fun a34 =>
    ∃ s35 : Slc, World.cell? w7 a34 = some (Slc.v s35) ∧
    BIf (decide (i6 < ((s35.l : Nat) : Int))) (
      needSome cap3 fun a36 =>
      ∃ n37 : Int, World.cell? (World.drew w7) a36 = some (Value.int .i64 n37) ∧
      needSome cap2 fun a38 =>
      ∃ s39 : Slc, World.cell? (World.drew w7) a38 = some (Slc.v s39) ∧
      0 ≤ i6 ∧ i6 ≤ ((s39.l : Nat) : Int) ∧ ((s39.l : Nat) : Int) ≤ ((s39.c : Nat) : Int) ∧ ((s39.c : Nat) : Int) ≤ ((s39.c : Nat) : Int) ∧
      needSome cap2 fun a41 =>
      ∃ s42 : Slc, World.cell? (World.drew w7) a41 = some (Slc.v s42) ∧
      inR .i64 (i6 + (if (((Slc.sub s39 1 (Int.toNat i6) s39.l s39.c).l : Nat) : Int) < n37 then (((Slc.sub s39 1 (Int.toNat i6) s39.l s39.c).l : Nat) : Int) else n37)) ∧
      inR .i64 (i6 + (if (((Slc.sub s39 1 (Int.toNat i6) s39.l s39.c).l : Nat) : Int) < n37 then (((Slc.sub s39 1 (Int.toNat i6) s39.l s39.c).l : Nat) : Int) else n37)) ∧
      0 ≤ i6 ∧ i6 ≤ (i6 + (if (((Slc.sub s39 1 (Int.toNat i6) s39.l s39.c).l : Nat) : Int) < n37 then (((Slc.sub s39 1 (Int.toNat i6) s39.l s39.c).l : Nat) : Int) else n37)) ∧ (i6 + (if (((Slc.sub s39 1 (Int.toNat i6) s39.l s39.c).l : Nat) : Int) < n37 then (((Slc.sub s39 1 (Int.toNat i6) s39.l s39.c).l : Nat) : Int) else n37)) ≤ (i6 + (if (((Slc.sub s39 1 (Int.toNat i6) s39.l s39.c).l : Nat) : Int) < n37 then (((Slc.sub s39 1 (Int.toNat i6) s39.l s39.c).l : Nat) : Int) else n37)) ∧ (i6 + (if (((Slc.sub s39 1 (Int.toNat i6) s39.l s39.c).l : Nat) : Int) < n37 then (((Slc.sub s39 1 (Int.toNat i6) s39.l s39.c).l : Nat) : Int) else n37)) ≤ ((s42.c : Nat) : Int) ∧
      YieldC Tryd.prog lr1 ⟨[(Slc.v (Slc.sub s42 1 (Int.toNat i6) (Int.toNat (i6 + (if (((Slc.sub s39 1 (Int.toNat i6) s39.l s39.c).l : Nat) : Int) < n37 then (((Slc.sub s39 1 (Int.toNat i6) s39.l s39.c).l : Nat) : Int) else n37))) (Int.toNat (i6 + (if (((Slc.sub s39 1 (Int.toNat i6) s39.l s39.c).l : Nat) : Int) < n37 then (((Slc.sub s39 1 (Int.toNat i6) s39.l s39.c).l : Nat) : Int) else n37)))))]⟩ (World.drew w7) fun e44 w45 =>
      ∃ b46 : Bool, e44 = .returned (.bool b46) ∧
      BIf (!b46) (
        K (Value.tuple #[]) w45) (
        needSome cap3 fun a47 =>
        ∃ n48 : Int, World.cell? w45 a47 = some (Value.int .i64 n48) ∧
        inR .i64 (i6 + n48) ∧
        (I4 ((i6 + n48)) w45 ∧ mu5 ((i6 + n48)) w45 < mu5 i6 w7))) (
      K (Value.tuple #[]) w7))

theorem slices_Chunk_byte_1_eq (lr1 : Nat) (cap2 : Option Addr) (cap3 : Option Addr) (w : World) (K : Value → World → Prop) : slices_Chunk_byte_1 lr1 cap2 cap3 w K = denY Tryd.prog callB Tryd.f18 (.two .none (.one (.loop [(4, (Sh.int .i64))] [5, 6, 7, 8, 9, 10, 11, 12, 13, 14, 15, 16, 17, 18, 19, 20, 21, 22, 23, 24, 25, 26, 27, 28, 29, 30] .none))) [(Value.func (.yield lr1) ⟨[]⟩ ⟨[]⟩), (Value.pointer cap2), (Value.pointer cap3)] w K := by kernel_rfl
theorem slices_Chunk_byte_1_ok (lr1 : Nat) (cap2 : Option Addr) (cap3 : Option Addr) {w : World} {R : Ending → World → Prop} (h : slices_Chunk_byte_1 lr1 cap2 cap3 w fun v w' => R (.returned v) w') : Calls Tryd.prog fn_slices_Chunk_byte_1 ⟨[(Value.func (.yield lr1) ⟨[]⟩ ⟨[]⟩), (Value.pointer cap2), (Value.pointer cap3)]⟩ w R :=
  calls_of_denY callB_ok mixed Tryd.func18 (slices_Chunk_byte_1_eq lr1 cap2 cap3 w _ ▸ h)

/-- tidewater/check.Parts -/
def check_Parts (shard1 : Int) (upto2 : Int) (data3 : Slc) (w : World) (K : Value → World → Prop) : Prop :=
  newS w (.cells ⟨[(Value.int .i64 shard1)]⟩ 3) fun r4 w5 =>
  newS w5 (.cells ⟨[(Value.int .i64 upto2)]⟩ 3) fun r6 w7 =>
  ∃ n8 : Int, World.cell? w7 (⟨r4, 0, none⟩ : Addr) = some (Value.int .i64 n8) ∧
  BIf (decide (n8 < (0 : Int))) (
    ∃ v9 : Value, World.cell? (World.drew w7) (⟨gl_ErrRange, 0, none⟩ : Addr) = some v9 ∧
    K (Value.tuple ⟨[(Slc.v (⟨none, 0, 0⟩ : Slc)), v9]⟩) (World.drew w7)) (
    ∃ n10 : Int, World.cell? w7 (⟨r4, 0, none⟩ : Addr) = some (Value.int .i64 n10) ∧
    BIf (decide ((12 : Int) < n10)) (
      ∃ v11 : Value, World.cell? (World.drew w7) (⟨gl_ErrRange, 0, none⟩ : Addr) = some v11 ∧
      K (Value.tuple ⟨[(Slc.v (⟨none, 0, 0⟩ : Slc)), v11]⟩) (World.drew w7)) (
      ∃ n12 : Int, World.cell? w7 (⟨r6, 0, none⟩ : Addr) = some (Value.int .i64 n12) ∧
      BIf (decide (n12 < (0 : Int))) (
        ∃ v13 : Value, World.cell? (World.drew w7) (⟨gl_ErrRange, 0, none⟩ : Addr) = some v13 ∧
        K (Value.tuple ⟨[(Slc.v (⟨none, 0, 0⟩ : Slc)), v13]⟩) (World.drew w7)) (
        ∃ n14 : Int, World.cell? w7 (⟨r6, 0, none⟩ : Addr) = some (Value.int .i64 n14) ∧
        BIf (decide ((4096 : Int) < n14)) (
          ∃ v15 : Value, World.cell? (World.drew w7) (⟨gl_ErrRange, 0, none⟩ : Addr) = some v15 ∧
          K (Value.tuple ⟨[(Slc.v (⟨none, 0, 0⟩ : Slc)), v15]⟩) (World.drew w7)) (
          newS w7 (.cells ⟨[(Slc.v (⟨none, 0, 0⟩ : Slc))]⟩ 25) fun r16 w17 =>
          Calls Tryd.prog fn_check_summed ⟨[(Slc.v data3)]⟩ w17 fun e18 w19 =>
          ∃ s20 : Slc, e18 = .returned (Slc.v s20) ∧
          Calls Tryd.prog fn_slices_Chunk_byte ⟨[(Slc.v s20), (Value.int .i64 (256 : Int))]⟩ w19 fun e21 w22 =>
          ∃ e23 : Value, e21 = .returned e23 ∧
          ∃ (gf50 : Nat) (first51 cap52 : List Value), e23 = .func (.func gf50) ⟨first51⟩ ⟨cap52⟩ ∧ callB gf50 = true ∧
          ∀ (D24 lr25 : Nat) (rc26 : Rec) (w27 : World), D24 = (World.heap w22).size → lr25 = D24 + 1 → w27 = World.alloc (World.alloc w22 (.deferred (some []))) (.loop (rc26 .ready none)) →
          (∀ s30 : Slc, ∀ (w28 : World) (R29 : Ending → World → Prop), (World.heap w28)[lr25]? = some (.loop (rc26 .ready none)) → (
            (World.heap w28)[lr25]? = some (.loop (rc26 .ready none)) ∧ ∀ w31 : World, w31 = World.putObj w28 lr25 (.loop (rc26 .busy none)) →
            ∃ s32 : Slc, World.cell? (World.drew w31) (⟨r16, 0, none⟩ : Addr) = some (Slc.v s32) ∧
            ∃ n33 : Int, World.cell? (World.drew w31) (⟨r4, 0, none⟩ : Addr) = some (Value.int .i64 n33) ∧
            ∃ n34 : Int, World.cell? (World.drew w31) (⟨r6, 0, none⟩ : Addr) = some (Value.int .i64 n34) ∧
            ∃ s35 : Slc, World.cell? (World.drew w31) (⟨r16, 0, none⟩ : Addr) = some (Slc.v s35) ∧
            Calls Tryd.prog fn_slices_Clone_byte ⟨[(Slc.v s30)]⟩ (World.drew w31) fun e36 w37 =>
            ∃ s38 : Slc, e36 = .returned (Slc.v s38) ∧
            (∃ s39 : Slc, World.cell? w37 (⟨r16, 0, none⟩ : Addr) = some (Slc.v s39) ∧
            (Slc.v s39) = (Slc.v s35)) ∧
            (∃ n40 : Int, World.cell? w37 (⟨r6, 0, none⟩ : Addr) = some (Value.int .i64 n40) ∧
            (Value.int .i64 n40) = (Value.int .i64 n34)) ∧
            (∃ n41 : Int, World.cell? w37 (⟨r4, 0, none⟩ : Addr) = some (Value.int .i64 n41) ∧
            (Value.int .i64 n41) = (Value.int .i64 n33)) ∧
            (∃ s42 : Slc, World.cell? w37 (⟨r16, 0, none⟩ : Addr) = some (Slc.v s42) ∧
            (Slc.v s42) = (Slc.v s32)) ∧
            newS w37 (.cells ⟨[(Value.int .i64 (5 : Int)), (Value.int .i64 n33), (Value.int .i64 (0 : Int)), (Value.int .i64 (0 : Int)), (Value.int .i64 (0 : Int)), (Value.int .i64 (0 : Int)), (Slc.v (⟨none, 0, 0⟩ : Slc)), (strV ([] : List UInt8)), (Value.int .i64 n34), (Value.int .i64 ((s35.l : Nat) : Int)), (Value.int .i64 (0 : Int)), (Slc.v s38)]⟩ 37) fun r43 w44 =>
            (∃ s45 : Slc, World.cell? w44 (⟨r16, 0, none⟩ : Addr) = some (Slc.v s45) ∧
            (Slc.v s45) = (Slc.v s32)) ∧
            appendS 12 37 [(Value.int .i64 (0 : Int)), (Value.int .i64 (0 : Int)), (Value.int .i64 (0 : Int)), (Value.int .i64 (0 : Int)), (Value.int .i64 (0 : Int)), (Value.int .i64 (0 : Int)), (Slc.v (⟨none, 0, 0⟩ : Slc)), (strV ([] : List UInt8)), (Value.int .i64 (0 : Int)), (Value.int .i64 (0 : Int)), (Value.int .i64 (0 : Int)), (Slc.v (⟨none, 0, 0⟩ : Slc))] w44 s32 (.slc (⟨(some (⟨r43, 0, none⟩ : Addr)), 1, 1⟩ : Slc)) fun s46 w47 =>
            canW w47 (⟨r16, 0, none⟩ : Addr) 1 ∧ ∀ w48 : World, w48 = World.setCell w47 (⟨r16, 0, none⟩ : Addr) (Slc.v s46) →
            (World.heap w48)[lr25]? = some (.loop (rc26 .busy none)) ∧ ∀ w49 : World, w49 = World.putObj w48 lr25 (.loop (rc26 .ready none)) → R29 (.returned (.bool true)) w49) → YieldC Tryd.prog lr25 ⟨[(Slc.v s30)]⟩ w28 R29) →
          Calls Tryd.prog gf50 ⟨first51 ++ Value.func (.yield lr25) #[] #[] :: cap52⟩ w27 fun e53 w54 => (∃ v, e53 = .returned v) ∧ (
            (World.heap w54)[lr25]? = some (.loop (rc26 .ready none)) ∧ ∀ w55 : World, w55 = World.putObj w54 lr25 (.loop (rc26 .exhausted none)) →
            ∃ s56 : Slc, World.cell? w55 (⟨r16, 0, none⟩ : Addr) = some (Slc.v s56) ∧
            BIf (decide ((64 : Int) < ((s56.l : Nat) : Int))) (
              ∃ v57 : Value, World.cell? (World.drew w55) (⟨gl_ErrFull, 0, none⟩ : Addr) = some v57 ∧
              (World.heap (World.drew w55))[D24]? = some (.deferred (some [])) ∧ ∀ w58 : World, w58 = World.putObj (World.drew w55) D24 (.deferred none) →
              K (Value.tuple ⟨[(Slc.v (⟨none, 0, 0⟩ : Slc)), v57]⟩) w58) (
              ∃ s59 : Slc, World.cell? w55 (⟨r16, 0, none⟩ : Addr) = some (Slc.v s59) ∧
              ∃ (I60 : (Int) → World → Prop) (mu61 : (Int) → World → Nat), I60 ((0 : Int)) w55 ∧ (
              ∀ i62 : Int, ∀ w63 : World, I60 i62 w63 → ∀ u64 u65 u66 u67 u68 u69 u70 u71 u72 u73 : Value,
                BIf (decide (i62 < ((s59.l : Nat) : Int))) (
                  ∃ s74 : Slc, World.cell? w63 (⟨r16, 0, none⟩ : Addr) = some (Slc.v s74) ∧
                  ∃ s75 : Slc, World.cell? w63 (⟨r16, 0, none⟩ : Addr) = some (Slc.v s75) ∧
                  needSome s74.p fun a76 =>
                  0 ≤ i62 ∧ i62 < ((s74.l : Nat) : Int) ∧
                  canW w63 ((Addr.add a76 ((Int.toNat i62) * 12)).add 10) 1 ∧ ∀ w77 : World, w77 = World.setCell w63 ((Addr.add a76 ((Int.toNat i62) * 12)).add 10) (Value.int .i64 ((s75.l : Nat) : Int)) →
                  inR .i64 (i62 + (1 : Int)) ∧
                  (I60 ((i62 + (1 : Int))) w77 ∧ mu61 ((i62 + (1 : Int))) w77 < mu61 i62 w63)) (
                  ∃ s78 : Slc, World.cell? w63 (⟨r16, 0, none⟩ : Addr) = some (Slc.v s78) ∧
                  (World.heap w63)[D24]? = some (.deferred (some [])) ∧ ∀ w79 : World, w79 = World.putObj w63 D24 (.deferred none) →
                  K (Value.tuple ⟨[(Slc.v s78), Value.nilIface]⟩) w79))))))))

theorem check_Parts_eq (shard1 : Int) (upto2 : Int) (data3 : Slc) (w : World) (K : Value → World → Prop) : check_Parts shard1 upto2 data3 w K = denF2 Tryd.prog callB Tryd.f6 (.two .none (.two .none (.two .none (.two (.two .none (.one (.range [.one Sh.slc] [] .none .none))) (.two .none (.two (.two .none (.one (.loop [(46, (Sh.int .i64))] [10, 47, 48, 49, 50, 51, 52, 53, 54, 55] .none))) .none)))))) [(Value.int .i64 shard1), (Value.int .i64 upto2), (Slc.v data3)] w K := by kernel_rfl
theorem check_Parts_ok (shard1 : Int) (upto2 : Int) (data3 : Slc) {w : World} {R : Ending → World → Prop} (h : check_Parts shard1 upto2 data3 w fun v w' => R (.returned v) w') : Calls Tryd.prog fn_check_Parts ⟨[(Value.int .i64 shard1), (Value.int .i64 upto2), (Slc.v data3)]⟩ w R :=
  calls_of_den2 callB_ok mixed Tryd.func6 (check_Parts_eq shard1 upto2 data3 w _ ▸ h)

/-- tidewater/tidewaterref24.Parts -/
def tidewaterref24_Parts (shard1 : Int) (upto2 : Int) (data3 : Slc) (w : World) (K : Value → World → Prop) : Prop :=
  ∃ J4 : World → Prop,
  (
    BIf (decide (shard1 < (0 : Int))) (
      K (Value.tuple ⟨[(Slc.v (⟨none, 0, 0⟩ : Slc)), (Value.int .i64 (1 : Int))]⟩) w) (
      BIf (decide ((12 : Int) < shard1)) (
        K (Value.tuple ⟨[(Slc.v (⟨none, 0, 0⟩ : Slc)), (Value.int .i64 (1 : Int))]⟩) w) (
        BIf (decide (upto2 < (0 : Int))) (
          K (Value.tuple ⟨[(Slc.v (⟨none, 0, 0⟩ : Slc)), (Value.int .i64 (1 : Int))]⟩) w) (
          BIf (decide ((4096 : Int) < upto2)) (
            K (Value.tuple ⟨[(Slc.v (⟨none, 0, 0⟩ : Slc)), (Value.int .i64 (1 : Int))]⟩) w) (
            J4 w))))) ∧ (
  ∀ w5 : World, J4 w5 → ∀ u6 u7 u8 u9 u10 u11 u12 u13 u14 u15 u16 u17 u18 u19 u20 u21 : Value,
    Calls Tryd.prog fn_tidewaterref24_summed ⟨[(Slc.v data3)]⟩ w5 fun e22 w23 =>
    ∃ s24 : Slc, e22 = .returned (Slc.v s24) ∧
    inR .i64 (((s24.l : Nat) : Int) + (255 : Int)) ∧
    0 ≤ (((s24.l : Nat) : Int) + (255 : Int)) ∧ 0 < (256 : Int) ∧ inR .i64 (((s24.l : Nat) : Int) + (255 : Int)) ∧
    BIf (decide ((64 : Int) < ((((s24.l : Nat) : Int) + (255 : Int)) / (256 : Int)))) (
      K (Value.tuple ⟨[(Slc.v (⟨none, 0, 0⟩ : Slc)), (Value.int .i64 (13 : Int))]⟩) w23) (
      newS w23 (.cells ⟨[]⟩ 37) fun r25 w26 =>
      ∃ (I27 : (Slc) → (Int) → World → Prop) (mu28 : (Slc) → (Int) → World → Nat), I27 ((⟨(some (⟨r25, 0, none⟩ : Addr)), 0, 0⟩ : Slc)) ((0 : Int)) w26 ∧ (
      ∀ out29 : Slc, ∀ i30 : Int, ∀ w31 : World, I27 out29 i30 w31 → ∀ u32 u33 u34 u35 u36 u37 u38 u39 u40 u41 u42 u43 u44 u45 u46 u47 u48 u49 u50 u51 u52 u53 u54 u55 u56 u57 u58 : Value,
        BIf (decide (i30 < ((((s24.l : Nat) : Int) + (255 : Int)) / (256 : Int)))) (
          inR .i64 ((256 : Int) * i30) ∧
          inR .i64 (((256 : Int) * i30) + (256 : Int)) ∧
          newS w31 (.cells ⟨[]⟩ 5) fun r59 w60 =>
          inR .i64 ((256 : Int) * i30) ∧
          0 ≤ ((256 : Int) * i30) ∧ ((256 : Int) * i30) ≤ (if (((256 : Int) * i30) + (256 : Int)) < ((s24.l : Nat) : Int) then (((256 : Int) * i30) + (256 : Int)) else ((s24.l : Nat) : Int)) ∧ (if (((256 : Int) * i30) + (256 : Int)) < ((s24.l : Nat) : Int) then (((256 : Int) * i30) + (256 : Int)) else ((s24.l : Nat) : Int)) ≤ ((s24.c : Nat) : Int) ∧ ((s24.c : Nat) : Int) ≤ ((s24.c : Nat) : Int) ∧
          appendS 1 5 [(Value.int .u8 (0 : Int))] w60 (⟨(some (⟨r59, 0, none⟩ : Addr)), 0, 0⟩ : Slc) (.slc (Slc.sub s24 1 (Int.toNat ((256 : Int) * i30)) (Int.toNat (if (((256 : Int) * i30) + (256 : Int)) < ((s24.l : Nat) : Int) then (((256 : Int) * i30) + (256 : Int)) else ((s24.l : Nat) : Int))) s24.c)) fun s62 w63 =>
          newS w63 (.cells ⟨[(Value.int .i64 (5 : Int)), (Value.int .i64 shard1), (Value.int .i64 (0 : Int)), (Value.int .i64 (0 : Int)), (Value.int .i64 (0 : Int)), (Value.int .i64 (0 : Int)), (Slc.v (⟨none, 0, 0⟩ : Slc)), (strV ([] : List UInt8)), (Value.int .i64 upto2), (Value.int .i64 i30), (Value.int .i64 ((((s24.l : Nat) : Int) + (255 : Int)) / (256 : Int))), (Slc.v s62)]⟩ 37) fun r64 w65 =>
          appendS 12 37 [(Value.int .i64 (0 : Int)), (Value.int .i64 (0 : Int)), (Value.int .i64 (0 : Int)), (Value.int .i64 (0 : Int)), (Value.int .i64 (0 : Int)), (Value.int .i64 (0 : Int)), (Slc.v (⟨none, 0, 0⟩ : Slc)), (strV ([] : List UInt8)), (Value.int .i64 (0 : Int)), (Value.int .i64 (0 : Int)), (Value.int .i64 (0 : Int)), (Slc.v (⟨none, 0, 0⟩ : Slc))] w65 out29 (.slc (⟨(some (⟨r64, 0, none⟩ : Addr)), 1, 1⟩ : Slc)) fun s66 w67 =>
          inR .i64 (i30 + (1 : Int)) ∧
          (I27 (s66) ((i30 + (1 : Int))) w67 ∧ mu28 (s66) ((i30 + (1 : Int))) w67 < mu28 out29 i30 w31)) (
          K (Value.tuple ⟨[(Slc.v out29), (Value.int .i64 (0 : Int))]⟩) w31))))

theorem tidewaterref24_Parts_eq (shard1 : Int) (upto2 : Int) (data3 : Slc) (w : World) (K : Value → World → Prop) : tidewaterref24_Parts shard1 upto2 data3 w K = denF Tryd.prog callB Tryd.f7 (.two .none (.cut [] [6, 7, 13, 14, 15, 16, 17, 18, 19, 20, 21, 22, 23, 24, 25, 26] .none (.two .none (.two .none (.two .none (.two .none (.two (.two .none (.one (.loop [(10, Sh.slc), (11, (Sh.int .i64))] [12, 36, 37, 38, 39, 40, 41, 42, 43, 44, 45, 46, 47, 48, 49, 50, 51, 52, 53, 54, 55, 56, 57, 58, 59, 60, 61] .none))) .none))))))) [(Value.int .i64 shard1), (Value.int .i64 upto2), (Slc.v data3)] w K := by kernel_rfl
theorem tidewaterref24_Parts_ok (shard1 : Int) (upto2 : Int) (data3 : Slc) {w : World} {R : Ending → World → Prop} (h : tidewaterref24_Parts shard1 upto2 data3 w fun v w' => R (.returned v) w') : Calls Tryd.prog fn_tidewaterref24_Parts ⟨[(Value.int .i64 shard1), (Value.int .i64 upto2), (Slc.v data3)]⟩ w R :=
  calls_of_den callB_ok mixed Tryd.func7 (tidewaterref24_Parts_eq shard1 upto2 data3 w _ ▸ h)

end Go.D
