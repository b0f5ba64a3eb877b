/-
  WHAT IS PROVED: verification conditions of functions of this program, each with its soundness. No further conditions.
-/
import Derived.Test.YtfnibbccnbmkoaaDoorBase
set_option linter.unusedSimpArgs false
set_option maxRecDepth 100000
set_option linter.unusedVariables false
namespace Go.D
open Go Go.Proofs
def iu (data1 : Slc) (w : World) (K : Value -> World -> Prop) : Prop :=
  aK w (.cells ⟨[data1.v]⟩ 33) fun r2 w3 =>
  Calls Tryd.prog gr ⟨[(Slc.v (⟨(some ⟨r2, 0, none⟩), 1, 1⟩ : Slc))]⟩ w3 fun e4 w5 =>
  ∃ n6, e4 = .returned (.int .u32 n6) /\
  0 <= (8 : Int) /\ 0 <= n6 /\
  0 <= (16 : Int) /\ 0 <= n6 /\
  0 <= (24 : Int) /\ 0 <= n6 /\
  aK w5 (.cells ⟨[(.int .u8 (IntKind.wrap .u8 n6)), (.int .u8 (IntKind.wrap .u8 (n6 / 256))), (.int .u8 (IntKind.wrap .u8 (n6 / 65536))), (.int .u8 (IntKind.wrap .u8 (n6 / 16777216)))]⟩ 5) fun r7 w8 =>
  bA 1 5 [(.int .u8 0)] w8 (⟨(some ⟨r7, 0, none⟩), 4, 4⟩ : Slc) (.slc data1) fun s9 w10 =>
  K (Slc.v s9) w10
theorem ji (data1 : Slc) {w : World} {R : Ending -> World -> Prop} (h : iu data1 w fun v w' => R (.returned v) w') : Calls Tryd.prog cA ⟨[data1.v]⟩ w R :=
  ae (ann := .none) aj mixed Tryd.func20 (Eq.mp (by kernel_rfl) h)
def dv (b1 : Slc) (w : World) (K : Value -> World -> Prop) : Prop :=
  Calls Tryd.prog cG ⟨[b1.v]⟩ w fun e2 w3 =>
  ∃ n4, e2 = .returned (.int .u32 n4) /\
  0 <= (8 : Int) /\ 0 <= n4 /\
  0 <= (16 : Int) /\ 0 <= n4 /\
  0 <= (24 : Int) /\ 0 <= n4 /\
  aK w3 (.cells ⟨[(.int .u8 (IntKind.wrap .u8 n4)), (.int .u8 (IntKind.wrap .u8 (n4 / 256))), (.int .u8 (IntKind.wrap .u8 (n4 / 65536))), (.int .u8 (IntKind.wrap .u8 (n4 / 16777216)))]⟩ 5) fun r5 w6 =>
  bA 1 5 [(.int .u8 0)] w6 (⟨(some ⟨r5, 0, none⟩), 4, 4⟩ : Slc) (.slc b1) fun s7 w8 =>
  K (Slc.v s7) w8
theorem fa (b1 : Slc) {w : World} {R : Ending -> World -> Prop} (h : dv b1 w fun v w' => R (.returned v) w') : Calls Tryd.prog bW ⟨[b1.v]⟩ w R :=
  ae (ann := .none) aj mixed Tryd.func27 (Eq.mp (by kernel_rfl) h)
def iZ (shard1 : Int) (upto2 : Int) (data3 : Slc) (w : World) (K : Value -> World -> Prop) : Prop :=
  aK w (.cells ⟨[(.int .i64 shard1)]⟩ 3) fun r4 w5 =>
  aK w5 (.cells ⟨[(.int .i64 upto2)]⟩ 3) fun r6 w7 =>
  ∃ n8, w7.cell? ⟨r4, 0, none⟩ = some (.int .i64 n8) /\
  BIf (decide (n8 < 0)) (
  ∃ v9, w7.drew.cell? ⟨cQ, 0, none⟩ = some v9 /\
  K (.tuple ⟨[(Slc.v ⟨none, 0, 0⟩), v9]⟩) w7.drew) (
  ∃ n10, w7.cell? ⟨r4, 0, none⟩ = some (.int .i64 n10) /\
  BIf (decide (12 < n10)) (
  ∃ v11, w7.drew.cell? ⟨cQ, 0, none⟩ = some v11 /\
  K (.tuple ⟨[(Slc.v ⟨none, 0, 0⟩), v11]⟩) w7.drew) (
  ∃ n12, w7.cell? ⟨r6, 0, none⟩ = some (.int .i64 n12) /\
  BIf (decide (n12 < 0)) (
  ∃ v13, w7.drew.cell? ⟨cQ, 0, none⟩ = some v13 /\
  K (.tuple ⟨[(Slc.v ⟨none, 0, 0⟩), v13]⟩) w7.drew) (
  ∃ n14, w7.cell? ⟨r6, 0, none⟩ = some (.int .i64 n14) /\
  BIf (decide (4096 < n14)) (
  ∃ v15, w7.drew.cell? ⟨cQ, 0, none⟩ = some v15 /\
  K (.tuple ⟨[(Slc.v ⟨none, 0, 0⟩), v15]⟩) w7.drew) (
  aK w7 (.cells ⟨[(Slc.v ⟨none, 0, 0⟩)]⟩ 43) fun r16 w17 =>
  Calls Tryd.prog cA ⟨[data3.v]⟩ w17 fun e18 w19 =>
  ∃ s20, e18 = .returned (Slc.v s20) /\
  Calls Tryd.prog cO ⟨[s20.v, (.int .i64 256)]⟩ w19 fun e21 w22 =>
  ∃ e23, e21 = .returned e23 /\
  ∃ (gf50 : Nat) (first51 cap52 : List Value), e23 = .func (.func gf50) ⟨first51⟩ ⟨cap52⟩ /\ mB gf50 = true /\
  ∀ (D24 lr25 : Nat) (rc26 : Rec) (w27 : World), D24 = (World.heap w22).size -> lr25 = D24 + 1 -> w27 = World.alloc (World.alloc w22 (.deferred (some []))) (.loop (rc26 .ready none)) ->
  (∀ s30 : Slc, ∀ (w28 : World) (R29 : Ending -> World -> Prop), (World.heap w28)[lr25]? = some (.loop (rc26 .ready none)) -> (
  (World.heap w28)[lr25]? = some (.loop (rc26 .ready none)) /\ ∀ w31, w31 = World.putObj w28 lr25 (.loop (rc26 .busy none)) ->
  ∃ s32, w31.drew.cell? ⟨r16, 0, none⟩ = some (Slc.v s32) /\
  ∃ n33, w31.drew.cell? ⟨r4, 0, none⟩ = some (.int .i64 n33) /\
  ∃ n34, w31.drew.cell? ⟨r6, 0, none⟩ = some (.int .i64 n34) /\
  ∃ s35, w31.drew.cell? ⟨r16, 0, none⟩ = some (Slc.v s35) /\
  Calls Tryd.prog cP ⟨[s30.v]⟩ w31.drew fun e36 w37 =>
  ∃ s38, e36 = .returned (Slc.v s38) /\
  (ckSx (w37.cell? ⟨r16, 0, none⟩) s35) /\
  (ckIx .i64 (w37.cell? ⟨r6, 0, none⟩) n34) /\
  (ckIx .i64 (w37.cell? ⟨r4, 0, none⟩) n33) /\
  (ckSx (w37.cell? ⟨r16, 0, none⟩) s32) /\
  aK w37 (.cells ⟨[(.int .i64 5), (.int .i64 n33), (.int .i64 0), (.int .i64 0), (.int .i64 0), (.int .i64 0), (Slc.v ⟨none, 0, 0⟩), (aq ([] : List UInt8)), (.int .i64 n34), (.int .i64 (s35.l : Int)), (.int .i64 0), s38.v]⟩ 50) fun r43 w44 =>
  (ckSx (w44.cell? ⟨r16, 0, none⟩) s32) /\
  bA 12 50 [(.int .i64 0), (.int .i64 0), (.int .i64 0), (.int .i64 0), (.int .i64 0), (.int .i64 0), (Slc.v ⟨none, 0, 0⟩), (aq ([] : List UInt8)), (.int .i64 0), (.int .i64 0), (.int .i64 0), (Slc.v ⟨none, 0, 0⟩)] w44 s32 (.slc (⟨(some ⟨r43, 0, none⟩), 1, 1⟩ : Slc)) fun s46 w47 =>
  aw w47 ⟨r16, 0, none⟩ 1 /\ ∀ w48, w48 = w47.setCell ⟨r16, 0, none⟩ (Slc.v s46) ->
  (World.heap w48)[lr25]? = some (.loop (rc26 .busy none)) /\ ∀ w49, w49 = World.putObj w48 lr25 (.loop (rc26 .ready none)) -> R29 (.returned (.bool true)) w49) -> dD Tryd.prog lr25 ⟨[s30.v]⟩ w28 R29) ->
  Calls Tryd.prog gf50 ⟨first51 ++ .func (.yield lr25) #[] #[] :: cap52⟩ w27 fun e53 w54 => (∃ v, e53 = .returned v) /\ (
  (World.heap w54)[lr25]? = some (.loop (rc26 .ready none)) /\ ∀ w55, w55 = World.putObj w54 lr25 (.loop (rc26 .exhausted none)) ->
  ∃ s56, w55.cell? ⟨r16, 0, none⟩ = some (Slc.v s56) /\
  BIf (decide ((64 : Int) < (s56.l : Int))) (
  ∃ v57, w55.drew.cell? ⟨gX, 0, none⟩ = some v57 /\
  (World.heap w55.drew)[D24]? = some (.deferred (some [])) /\ ∀ w58, w58 = World.putObj w55.drew D24 (.deferred none) ->
  K (.tuple ⟨[(Slc.v ⟨none, 0, 0⟩), v57]⟩) w58) (
  ∃ s59, w55.cell? ⟨r16, 0, none⟩ = some (Slc.v s59) /\
  ∃ (I60 : (Int) -> World -> Prop) (mu61 : (Int) -> World -> Nat), I60 ((0 : Int)) w55 /\ (
  ∀ i62 : Int, ∀ w63 : World, I60 i62 w63 -> ∀ _ _ _ _ _ _ _ _ _ _ : Value,
  BIf (decide (i62 < (s59.l : Int))) (
  ∃ s74, w63.cell? ⟨r16, 0, none⟩ = some (Slc.v s74) /\
  ∃ s75, w63.cell? ⟨r16, 0, none⟩ = some (Slc.v s75) /\
  needSome s74.p fun a76 =>
  0 <= i62 /\ i62 < (s74.l : Int) /\
  aw w63 ((Addr.add a76 ((Int.toNat i62) * 12)).add 10) 1 /\ ∀ w77, w77 = w63.setCell ((Addr.add a76 ((Int.toNat i62) * 12)).add 10) (.int .i64 (s75.l : Int)) ->
  inR .i64 (i62 + 1) /\
  (I60 ((i62 + 1)) w77 /\ mu61 ((i62 + 1)) w77 < mu61 i62 w63)) (
  ∃ s78, w63.cell? ⟨r16, 0, none⟩ = some (Slc.v s78) /\
  (World.heap w63)[D24]? = some (.deferred (some [])) /\ ∀ w79, w79 = World.putObj w63 D24 (.deferred none) ->
  K (.tuple ⟨[s78.v, .nilIface]⟩) w79))))))))
theorem j0 (shard1 : Int) (upto2 : Int) (data3 : Slc) {w : World} {R : Ending -> World -> Prop} (h : iZ shard1 upto2 data3 w fun v w' => R (.returned v) w') : Calls Tryd.prog dm ⟨[(.int .i64 shard1), (.int .i64 upto2), data3.v]⟩ w R :=
  gS (ann := (.two .none (.two .none (.two .none (.two (.two .none (.one (.range [.one Sh.slc] [] .none .none))) (.two .none (.two (.two .none (.one (.loop [(46, (Sh.int .i64))] ([10] ++ List.range' 47 9) .none))) .none))))))) aj mixed Tryd.func12 (Eq.mp (by kernel_rfl) h)
end Go.D

