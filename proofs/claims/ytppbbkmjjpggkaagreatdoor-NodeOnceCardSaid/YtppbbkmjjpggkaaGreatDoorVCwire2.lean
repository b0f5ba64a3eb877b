/-
  WHAT IS PROVED: verification conditions of functions of this program, each with its soundness. No further conditions.
-/
import Derived.Test.YtppbbkmjjpggkaaGreatDoorBase
set_option linter.unusedSimpArgs false
set_option maxRecDepth 100000
set_option linter.unusedVariables false
namespace Go.D
open Go Go.Proofs
def ur (n1 : Int) (most2 : Int) (w : World) (K : Value -> World -> Prop) : Prop :=
  BIf (decide ((0 : Int) <= n1)) (
  K (.bool (decide (n1 <= most2))) w) (
  K (.bool false) w)
theorem vX (n1 : Int) (most2 : Int) {w : World} {R : Ending -> World -> Prop} (h : ur n1 most2 w fun v w' => R (.returned v) w') : Calls Tryz.prog cL ⟨[(.int .i64 n1), (.int .i64 most2)]⟩ w R :=
  ab (ann := .none) ah mixed Tryz.func112 (Eq.mp (by kernel_rfl) h)
def j8 (r1 : Int) (r2 : Int) (r3 : Int) (r4 : Int) (r5 : Slc) (w : World) (K : Value -> World -> Prop) : Prop :=
  aH w (.cells ⟨[(.int .i64 r1), (.int .i64 r2), (.int .i64 r3), (.int .i64 r4), (Slc.v r5)]⟩ 30) fun r6 w7 =>
  ∃ n8, w7.cell? ⟨r6, 0, none⟩ = some (.int .i64 n8) /\
  Calls Tryz.prog cL ⟨[(.int .i64 n8), (.int .i64 (1073741824 : Int))]⟩ w7 fun e9 w10 =>
  ∃ b11, e9 = .returned (.bool b11) /\
  BIf b11 (
  ∃ n12, w10.cell? ⟨r6, 1, none⟩ = some (.int .i64 n12) /\
  BIf (decide ((1 : Int) <= n12)) (
  ∃ n13, w10.cell? ⟨r6, 1, none⟩ = some (.int .i64 n13) /\
  BIf (decide (n13 <= (5 : Int))) (
  ∃ n14, w10.cell? ⟨r6, 2, none⟩ = some (.int .i64 n14) /\
  Calls Tryz.prog cL ⟨[(.int .i64 n14), (.int .i64 (1073741824 : Int))]⟩ w10 fun e15 w16 =>
  ∃ b17, e15 = .returned (.bool b17) /\
  BIf b17 (
  ∃ n18, w16.cell? ⟨r6, 3, none⟩ = some (.int .i64 n18) /\
  Calls Tryz.prog cL ⟨[(.int .i64 n18), (.int .i64 (4096 : Int))]⟩ w16 fun e19 w20 =>
  ∃ b21, e19 = .returned (.bool b21) /\
  BIf b21 (
  ∃ s22, w20.cell? ⟨r6, 4, none⟩ = some (Slc.v s22) /\
  BIf (decide ((s22.l : Int) <= (2000 : Int))) (
  ∃ s23, w20.cell? ⟨r6, 4, none⟩ = some (Slc.v s23) /\
  BIf (decide ((s23.l : Int) = (0 : Int))) (
  K (.bool true) w20) (
  ∃ n24, w20.cell? ⟨r6, 1, none⟩ = some (.int .i64 n24) /\
  K (.bool (decide (n24 = (1 : Int)))) w20)) (
  K (.bool false) w20)) (
  K (.bool false) w20)) (
  K (.bool false) w16)) (
  K (.bool false) w10)) (
  K (.bool false) w10)) (
  K (.bool false) w10)
theorem nX (r1 : Int) (r2 : Int) (r3 : Int) (r4 : Int) (r5 : Slc) {w : World} {R : Ending -> World -> Prop} (h : j8 r1 r2 r3 r4 r5 w fun v w' => R (.returned v) w') : Calls Tryz.prog dz ⟨[(.agg ⟨[(.int .i64 r1), (.int .i64 r2), (.int .i64 r3), (.int .i64 r4), (Slc.v r5)]⟩)]⟩ w R :=
  ab (ann := .none) ah mixed Tryz.func76 (Eq.mp (by kernel_rfl) h)
def lZ (r1 : Int) (r2 : Int) (r3 : Int) (r4 : Slc) (w : World) (K : Value -> World -> Prop) : Prop :=
  aH w (.cells ⟨[(.int .i64 r1), (.int .i64 r2), (.int .i64 r3), (Slc.v r4)]⟩ 65) fun r5 w6 =>
  ∃ n7, w6.drew.cell? ⟨r5, 0, none⟩ = some (.int .i64 n7) /\
  Calls Tryz.prog cL ⟨[(.int .i64 n7), (.int .i64 (1073741824 : Int))]⟩ w6.drew fun e8 w9 =>
  ∃ b10, e8 = .returned (.bool b10) /\
  BIf b10 (
  ∃ n11, w9.cell? ⟨r5, 1, none⟩ = some (.int .i64 n11) /\
  Calls Tryz.prog gm ⟨[]⟩ w9 fun e12 w13 =>
  ∃ s14, e12 = .returned (Slc.v s14) /\
  (∃ n15, w13.cell? ⟨r5, 1, none⟩ = some (.int .i64 n15) /\
  (Value.int .i64 n15) = (Value.int .i64 n11)) /\
  Calls Tryz.prog cL ⟨[(.int .i64 n11), (.int .i64 (s14.l : Int))]⟩ w13 fun e16 w17 =>
  ∃ b18, e16 = .returned (.bool b18) /\
  BIf b18 (
  ∃ n19, w17.cell? ⟨r5, 2, none⟩ = some (.int .i64 n19) /\
  Calls Tryz.prog cL ⟨[(.int .i64 n19), (.int .i64 (4096 : Int))]⟩ w17 fun e20 w21 =>
  ∃ b22, e20 = .returned (.bool b22) /\
  BIf b22 (
  ∃ s23, w21.cell? ⟨r5, 3, none⟩ = some (Slc.v s23) /\
  K (.bool (decide ((s23.l : Int) <= (2000 : Int)))) w21) (
  K (.bool false) w21)) (
  K (.bool false) w17)) (
  K (.bool false) w9)
theorem pM (r1 : Int) (r2 : Int) (r3 : Int) (r4 : Slc) {w : World} {R : Ending -> World -> Prop} (h : lZ r1 r2 r3 r4 w fun v w' => R (.returned v) w') : Calls Tryz.prog gj ⟨[(.agg ⟨[(.int .i64 r1), (.int .i64 r2), (.int .i64 r3), (Slc.v r4)]⟩)]⟩ w R :=
  ab (ann := .none) ah mixed Tryz.func86 (Eq.mp (by kernel_rfl) h)
def uu (data1 : Slc) (numbers2 : Slc) (w : World) (K : Value -> World -> Prop) : Prop :=
  aH w (.cells ⟨[(Slc.v ⟨none, 0, 0⟩), .nilIface]⟩ 213) fun r3 w4 =>
  ∃ (I5 : (Int) -> World -> Prop) (mu6 : (Int) -> World -> Nat), I5 ((0 : Int)) w4 /\ (
  ∀ i7 : Int, ∀ w8 : World, I5 i7 w8 -> ∀ _ _ _ _ _ _ _ _ : Value,
  BIf (decide (i7 < (numbers2.l : Int))) (
  needSome numbers2.p fun a17 =>
  0 <= i7 /\ i7 < (numbers2.l : Int) /\
  ∃ n18, w8.cell? (Addr.add a17 ((Int.toNat i7) * 1)) = some (.int .i64 n18) /\
  Calls Tryz.prog bK ⟨[(.pointer (some ⟨r3, 0, none⟩)), (.int .i64 n18)]⟩ w8 fun e19 w20 =>
  e19 = .returned (.tuple #[]) /\
  inR .i64 (i7 + (1 : Int)) /\
  (I5 ((i7 + (1 : Int))) w20 /\ mu6 ((i7 + (1 : Int))) w20 < mu6 i7 w8)) (
  ∃ t21 : List UInt8, ag w8 data1 t21 /\
  Calls Tryz.prog cY ⟨[(.pointer (some ⟨r3, 0, none⟩)), (fG t21)]⟩ w8 fun e22 w23 =>
  e22 = .returned (.tuple #[]) /\
  Calls Tryz.prog cZ ⟨[(.pointer (some ⟨r3, 0, none⟩))]⟩ w23 fun e24 w25 =>
  ∃ s26 : Slc, ∃ e27, e24 = .returned (.tuple ⟨[(Slc.v s26), e27]⟩) /\
  isI e27 /\
  BIf (!isNilI e27) (
  K (.tuple ⟨[(Slc.v ⟨none, 0, 0⟩), e27]⟩) w25) (
  Calls Tryz.prog lx ⟨[(Slc.v s26)]⟩ w25 fun e28 w29 =>
  ∃ s30 : Slc, ∃ e31, e28 = .returned (.tuple ⟨[(Slc.v s30), e31]⟩) /\
  K (.tuple ⟨[(Slc.v s30), e31]⟩) w29)))
theorem vY (data1 : Slc) (numbers2 : Slc) {w : World} {R : Ending -> World -> Prop} (h : uu data1 numbers2 w fun v w' => R (.returned v) w') : Calls Tryz.prog iq ⟨[(Slc.v data1), (Slc.v numbers2)]⟩ w R :=
  ab (ann := (.two .none (.two .none (.two (.two .none (.one (.loop [(15, (Sh.int .i64))] [8, 16, 17, 18, 19, 20, 21, 22] .none))) .none)))) ah mixed Tryz.func87 (Eq.mp (by kernel_rfl) h)
def As (r1 : Int) (r2 : Int) (r3 : Int) (r4 : Int) (r5 : Slc) (w : World) (K : Value -> World -> Prop) : Prop :=
  aH w (.cells ⟨[(.int .i64 r1), (.int .i64 r2), (.int .i64 r3), (.int .i64 r4), (Slc.v r5)]⟩ 30) fun r6 w7 =>
  ∃ n8 : Int, ∃ n9 : Int, ∃ n10 : Int, ∃ n11 : Int, ∃ s12 : Slc, rowAt w7 ⟨r6, 0, none⟩ 0 [(.int .i64 n8), (.int .i64 n9), (.int .i64 n10), (.int .i64 n11), (Slc.v s12)] /\
  Calls Tryz.prog dz ⟨[(.agg ⟨[(.int .i64 n8), (.int .i64 n9), (.int .i64 n10), (.int .i64 n11), (Slc.v s12)]⟩)]⟩ w7 fun e13 w14 =>
  ∃ b15, e13 = .returned (.bool b15) /\
  BIf (!b15) (
  ∃ v16, w14.drew.cell? ⟨aw, 0, none⟩ = some v16 /\
  K (.tuple ⟨[(Slc.v ⟨none, 0, 0⟩), v16]⟩) w14.drew) (
  ∃ s17, w14.cell? ⟨r6, 4, none⟩ = some (Slc.v s17) /\
  ∃ n18, w14.cell? ⟨r6, 0, none⟩ = some (.int .i64 n18) /\
  ∃ n19, w14.cell? ⟨r6, 1, none⟩ = some (.int .i64 n19) /\
  ∃ n20, w14.cell? ⟨r6, 2, none⟩ = some (.int .i64 n20) /\
  ∃ n21, w14.cell? ⟨r6, 3, none⟩ = some (.int .i64 n21) /\
  aH w14 (.cells ⟨[(.int .i64 (1 : Int)), (.int .i64 n18), (.int .i64 n19), (.int .i64 n20), (.int .i64 n21)]⟩ 3) fun r22 w23 =>
  Calls Tryz.prog iq ⟨[(Slc.v s17), (Slc.v (⟨(some ⟨r22, 0, none⟩), 5, 5⟩ : Slc))]⟩ w23 fun e24 w25 =>
  ∃ s26 : Slc, ∃ e27, e24 = .returned (.tuple ⟨[(Slc.v s26), e27]⟩) /\
  K (.tuple ⟨[(Slc.v s26), e27]⟩) w25)
theorem At (r1 : Int) (r2 : Int) (r3 : Int) (r4 : Int) (r5 : Slc) {w : World} {R : Ending -> World -> Prop} (h : As r1 r2 r3 r4 r5 w fun v w' => R (.returned v) w') : Calls Tryz.prog oC ⟨[(.agg ⟨[(.int .i64 r1), (.int .i64 r2), (.int .i64 r3), (.int .i64 r4), (Slc.v r5)]⟩)]⟩ w R :=
  ab (ann := .none) ah mixed Tryz.func51 (Eq.mp (by kernel_rfl) h)
def ye (r1 : Int) (r2 : Int) (r3 : Int) (r4 : Slc) (w : World) (K : Value -> World -> Prop) : Prop :=
  aH w (.cells ⟨[(.int .i64 r1), (.int .i64 r2), (.int .i64 r3), (Slc.v r4)]⟩ 65) fun r5 w6 =>
  ∃ n7 : Int, ∃ n8 : Int, ∃ n9 : Int, ∃ s10 : Slc, rowAt w6 ⟨r5, 0, none⟩ 0 [(.int .i64 n7), (.int .i64 n8), (.int .i64 n9), (Slc.v s10)] /\
  Calls Tryz.prog gj ⟨[(.agg ⟨[(.int .i64 n7), (.int .i64 n8), (.int .i64 n9), (Slc.v s10)]⟩)]⟩ w6 fun e11 w12 =>
  ∃ b13, e11 = .returned (.bool b13) /\
  BIf (!b13) (
  ∃ v14, w12.drew.cell? ⟨aw, 0, none⟩ = some v14 /\
  K (.tuple ⟨[(Slc.v ⟨none, 0, 0⟩), v14]⟩) w12.drew) (
  ∃ s15, w12.cell? ⟨r5, 3, none⟩ = some (Slc.v s15) /\
  ∃ n16, w12.cell? ⟨r5, 0, none⟩ = some (.int .i64 n16) /\
  ∃ n17, w12.cell? ⟨r5, 1, none⟩ = some (.int .i64 n17) /\
  ∃ n18, w12.cell? ⟨r5, 2, none⟩ = some (.int .i64 n18) /\
  aH w12 (.cells ⟨[(.int .i64 (2 : Int)), (.int .i64 n16), (.int .i64 n17), (.int .i64 n18)]⟩ 3) fun r19 w20 =>
  Calls Tryz.prog iq ⟨[(Slc.v s15), (Slc.v (⟨(some ⟨r19, 0, none⟩), 4, 4⟩ : Slc))]⟩ w20 fun e21 w22 =>
  ∃ s23 : Slc, ∃ e24, e21 = .returned (.tuple ⟨[(Slc.v s23), e24]⟩) /\
  K (.tuple ⟨[(Slc.v s23), e24]⟩) w22)
theorem y0 (r1 : Int) (r2 : Int) (r3 : Int) (r4 : Slc) {w : World} {R : Ending -> World -> Prop} (h : ye r1 r2 r3 r4 w fun v w' => R (.returned v) w') : Calls Tryz.prog ia ⟨[(.agg ⟨[(.int .i64 r1), (.int .i64 r2), (.int .i64 r3), (Slc.v r4)]⟩)]⟩ w R :=
  ab (ann := .none) ah mixed Tryz.func43 (Eq.mp (by kernel_rfl) h)
def yf (b1 : Slc) (w : World) (K : Value -> World -> Prop) : Prop :=
  aH w (.cells ⟨[(.int .i64 (0 : Int)), (.int .i64 (0 : Int)), (.int .i64 (0 : Int)), (.int .i64 (0 : Int)), (Slc.v ⟨none, 0, 0⟩)]⟩ 30) fun r2 w3 =>
  aH w3 (.cells ⟨[(.int .i64 (0 : Int)), (.int .i64 (0 : Int)), (.int .i64 (0 : Int)), (Slc.v ⟨none, 0, 0⟩)]⟩ 65) fun r4 w5 =>
  Calls Tryz.prog mC ⟨[(Slc.v b1)]⟩ w5 fun e6 w7 =>
  ∃ s8 : Slc, ∃ s9 : Slc, ∃ e10, e6 = .returned (.tuple ⟨[(Slc.v s8), (Slc.v s9), e10]⟩) /\
  isI e10 /\
  BIf (!isNilI e10) (
  az w7 ⟨r2, 0, none⟩ 5 /\ ∀ w11, w11 = setCells w7 ⟨r2, 0, none⟩ 0 [(.int .i64 (0 : Int)), (.int .i64 (0 : Int)), (.int .i64 (0 : Int)), (.int .i64 (0 : Int)), (Slc.v ⟨none, 0, 0⟩)] ->
  az w11 ⟨r4, 0, none⟩ 4 /\ ∀ w12, w12 = setCells w11 ⟨r4, 0, none⟩ 0 [(.int .i64 (0 : Int)), (.int .i64 (0 : Int)), (.int .i64 (0 : Int)), (Slc.v ⟨none, 0, 0⟩)] ->
  ∃ n13 : Int, ∃ n14 : Int, ∃ n15 : Int, ∃ n16 : Int, ∃ s17 : Slc, rowAt w12 ⟨r2, 0, none⟩ 0 [(.int .i64 n13), (.int .i64 n14), (.int .i64 n15), (.int .i64 n16), (Slc.v s17)] /\
  ∃ n18 : Int, ∃ n19 : Int, ∃ n20 : Int, ∃ s21 : Slc, rowAt w12 ⟨r4, 0, none⟩ 0 [(.int .i64 n18), (.int .i64 n19), (.int .i64 n20), (Slc.v s21)] /\
  K (.tuple ⟨[(.agg ⟨[(.int .i64 n13), (.int .i64 n14), (.int .i64 n15), (.int .i64 n16), (Slc.v s17)]⟩), (.agg ⟨[(.int .i64 n18), (.int .i64 n19), (.int .i64 n20), (Slc.v s21)]⟩), (.bool false), e10]⟩) w12) (
  BIf (decide ((0 : Int) < (s9.l : Int))) (
  ∃ v22, w7.drew.cell? ⟨aw, 0, none⟩ = some v22 /\
  az w7.drew ⟨r2, 0, none⟩ 5 /\ ∀ w23, w23 = setCells w7.drew ⟨r2, 0, none⟩ 0 [(.int .i64 (0 : Int)), (.int .i64 (0 : Int)), (.int .i64 (0 : Int)), (.int .i64 (0 : Int)), (Slc.v ⟨none, 0, 0⟩)] ->
  (∃ v24, w23.cell? ⟨aw, 0, none⟩ = some v24 /\
  v24 = v22) /\
  az w23 ⟨r4, 0, none⟩ 4 /\ ∀ w25, w25 = setCells w23 ⟨r4, 0, none⟩ 0 [(.int .i64 (0 : Int)), (.int .i64 (0 : Int)), (.int .i64 (0 : Int)), (Slc.v ⟨none, 0, 0⟩)] ->
  (∃ v26, w25.cell? ⟨aw, 0, none⟩ = some v26 /\
  v26 = v22) /\
  ∃ n27 : Int, ∃ n28 : Int, ∃ n29 : Int, ∃ n30 : Int, ∃ s31 : Slc, rowAt w25 ⟨r2, 0, none⟩ 0 [(.int .i64 n27), (.int .i64 n28), (.int .i64 n29), (.int .i64 n30), (Slc.v s31)] /\
  ∃ n32 : Int, ∃ n33 : Int, ∃ n34 : Int, ∃ s35 : Slc, rowAt w25 ⟨r4, 0, none⟩ 0 [(.int .i64 n32), (.int .i64 n33), (.int .i64 n34), (Slc.v s35)] /\
  K (.tuple ⟨[(.agg ⟨[(.int .i64 n27), (.int .i64 n28), (.int .i64 n29), (.int .i64 n30), (Slc.v s31)]⟩), (.agg ⟨[(.int .i64 n32), (.int .i64 n33), (.int .i64 n34), (Slc.v s35)]⟩), (.bool false), v22]⟩) w25) (
  Calls Tryz.prog jQ ⟨[(Slc.v s8)]⟩ w7 fun e36 w37 =>
  ∃ p38, e36 = .returned (.pointer p38) /\
  aH w37 (.cells ⟨[(.int .i64 (0 : Int)), (.int .i64 (0 : Int)), (.int .i64 (0 : Int)), (.int .i64 (0 : Int)), (Slc.v ⟨none, 0, 0⟩)]⟩ 30) fun r39 w40 =>
  aH w40 (.cells ⟨[(.int .i64 (0 : Int)), (.int .i64 (0 : Int)), (.int .i64 (0 : Int)), (Slc.v ⟨none, 0, 0⟩)]⟩ 65) fun r41 w42 =>
  Calls Tryz.prog aQ ⟨[(.pointer p38), (.int .i64 (2 : Int))]⟩ w42 fun e43 w44 =>
  ∃ n45, e43 = .returned (.int .i64 n45) /\
  ∃ J46 : World -> Prop,
  (
  BIf (decide (n45 = (2 : Int))) (
  Calls Tryz.prog aQ ⟨[(.pointer p38), (.int .i64 (1073741824 : Int))]⟩ w44 fun e47 w48 =>
  ∃ n49, e47 = .returned (.int .i64 n49) /\
  Calls Tryz.prog gm ⟨[]⟩ w48 fun e50 w51 =>
  ∃ s52, e50 = .returned (Slc.v s52) /\
  Calls Tryz.prog aQ ⟨[(.pointer p38), (.int .i64 (s52.l : Int))]⟩ w51 fun e53 w54 =>
  ∃ n55, e53 = .returned (.int .i64 n55) /\
  Calls Tryz.prog aQ ⟨[(.pointer p38), (.int .i64 (4096 : Int))]⟩ w54 fun e56 w57 =>
  ∃ n58, e56 = .returned (.int .i64 n58) /\
  az w57 ⟨r41, 0, none⟩ 4 /\ ∀ w59, w59 = setCells w57 ⟨r41, 0, none⟩ 0 [(.int .i64 n49), (.int .i64 n55), (.int .i64 n58), (Slc.v ⟨none, 0, 0⟩)] ->
  Calls Tryz.prog cO ⟨[(.pointer p38), (.int .i64 (2000 : Int))]⟩ w59 fun e60 w61 =>
  ∃ t62 : List UInt8, e60 = .returned (fG t62) /\
  ot Tryz.prog 5 t62 w61 fun s63 w64 =>
  az w64 ⟨r41, 3, none⟩ 1 /\ ∀ w65, w65 = w64.setCell ⟨r41, 3, none⟩ (Slc.v s63) ->
  J46 w65) (
  Calls Tryz.prog aQ ⟨[(.pointer p38), (.int .i64 (1073741824 : Int))]⟩ w44 fun e66 w67 =>
  ∃ n68, e66 = .returned (.int .i64 n68) /\
  Calls Tryz.prog aQ ⟨[(.pointer p38), (.int .i64 (5 : Int))]⟩ w67 fun e69 w70 =>
  ∃ n71, e69 = .returned (.int .i64 n71) /\
  Calls Tryz.prog aQ ⟨[(.pointer p38), (.int .i64 (1073741824 : Int))]⟩ w70 fun e72 w73 =>
  ∃ n74, e72 = .returned (.int .i64 n74) /\
  Calls Tryz.prog aQ ⟨[(.pointer p38), (.int .i64 (4096 : Int))]⟩ w73 fun e75 w76 =>
  ∃ n77, e75 = .returned (.int .i64 n77) /\
  az w76 ⟨r39, 0, none⟩ 5 /\ ∀ w78, w78 = setCells w76 ⟨r39, 0, none⟩ 0 [(.int .i64 n68), (.int .i64 n71), (.int .i64 n74), (.int .i64 n77), (Slc.v ⟨none, 0, 0⟩)] ->
  Calls Tryz.prog cO ⟨[(.pointer p38), (.int .i64 (2000 : Int))]⟩ w78 fun e79 w80 =>
  ∃ t81 : List UInt8, e79 = .returned (fG t81) /\
  ot Tryz.prog 5 t81 w80 fun s82 w83 =>
  az w83 ⟨r39, 4, none⟩ 1 /\ ∀ w84, w84 = w83.setCell ⟨r39, 4, none⟩ (Slc.v s82) ->
  J46 w84)) /\ (
  ∀ w85 : World, J46 w85 -> ∀ _ _ _ _ _ _ _ _ _ _ _ _ _ _ _ _ _ _ _ _ _ _ _ _ _ _ _ _ : Value,
  Calls Tryz.prog fL ⟨[(.pointer p38)]⟩ w85 fun e114 w115 =>
  ∃ e116, e114 = .returned e116 /\
  isI e116 /\
  BIf (!isNilI e116) (
  az w115 ⟨r2, 0, none⟩ 5 /\ ∀ w117, w117 = setCells w115 ⟨r2, 0, none⟩ 0 [(.int .i64 (0 : Int)), (.int .i64 (0 : Int)), (.int .i64 (0 : Int)), (.int .i64 (0 : Int)), (Slc.v ⟨none, 0, 0⟩)] ->
  az w117 ⟨r4, 0, none⟩ 4 /\ ∀ w118, w118 = setCells w117 ⟨r4, 0, none⟩ 0 [(.int .i64 (0 : Int)), (.int .i64 (0 : Int)), (.int .i64 (0 : Int)), (Slc.v ⟨none, 0, 0⟩)] ->
  ∃ n119 : Int, ∃ n120 : Int, ∃ n121 : Int, ∃ n122 : Int, ∃ s123 : Slc, rowAt w118 ⟨r2, 0, none⟩ 0 [(.int .i64 n119), (.int .i64 n120), (.int .i64 n121), (.int .i64 n122), (Slc.v s123)] /\
  ∃ n124 : Int, ∃ n125 : Int, ∃ n126 : Int, ∃ s127 : Slc, rowAt w118 ⟨r4, 0, none⟩ 0 [(.int .i64 n124), (.int .i64 n125), (.int .i64 n126), (Slc.v s127)] /\
  K (.tuple ⟨[(.agg ⟨[(.int .i64 n119), (.int .i64 n120), (.int .i64 n121), (.int .i64 n122), (Slc.v s123)]⟩), (.agg ⟨[(.int .i64 n124), (.int .i64 n125), (.int .i64 n126), (Slc.v s127)]⟩), (.bool false), e116]⟩) w118) (
  BIf (decide (n45 = (2 : Int))) (
  ∃ n128 : Int, ∃ n129 : Int, ∃ n130 : Int, ∃ s131 : Slc, rowAt w115.drew ⟨r41, 0, none⟩ 0 [(.int .i64 n128), (.int .i64 n129), (.int .i64 n130), (Slc.v s131)] /\
  az w115.drew ⟨r2, 0, none⟩ 5 /\ ∀ w132, w132 = setCells w115.drew ⟨r2, 0, none⟩ 0 [(.int .i64 (0 : Int)), (.int .i64 (0 : Int)), (.int .i64 (0 : Int)), (.int .i64 (0 : Int)), (Slc.v ⟨none, 0, 0⟩)] ->
  (∃ n133 : Int, ∃ n134 : Int, ∃ n135 : Int, ∃ s136 : Slc, rowAt w132 ⟨r41, 0, none⟩ 0 [(.int .i64 n133), (.int .i64 n134), (.int .i64 n135), (Slc.v s136)] /\
  (Value.agg ⟨[(Value.int .i64 n133), (Value.int .i64 n134), (Value.int .i64 n135), (Slc.v s136)]⟩) = (Value.agg ⟨[(Value.int .i64 n128), (Value.int .i64 n129), (Value.int .i64 n130), (Slc.v s131)]⟩)) /\
  az w132 ⟨r4, 0, none⟩ 4 /\ ∀ w137, w137 = setCells w132 ⟨r4, 0, none⟩ 0 [(.int .i64 n128), (.int .i64 n129), (.int .i64 n130), (Slc.v s131)] ->
  ∃ n138 : Int, ∃ n139 : Int, ∃ n140 : Int, ∃ n141 : Int, ∃ s142 : Slc, rowAt w137 ⟨r2, 0, none⟩ 0 [(.int .i64 n138), (.int .i64 n139), (.int .i64 n140), (.int .i64 n141), (Slc.v s142)] /\
  ∃ n143 : Int, ∃ n144 : Int, ∃ n145 : Int, ∃ s146 : Slc, rowAt w137 ⟨r4, 0, none⟩ 0 [(.int .i64 n143), (.int .i64 n144), (.int .i64 n145), (Slc.v s146)] /\
  K (.tuple ⟨[(.agg ⟨[(.int .i64 n138), (.int .i64 n139), (.int .i64 n140), (.int .i64 n141), (Slc.v s142)]⟩), (.agg ⟨[(.int .i64 n143), (.int .i64 n144), (.int .i64 n145), (Slc.v s146)]⟩), (.bool false), .nilIface]⟩) w137) (
  BIf (!decide (n45 = (1 : Int))) (
  ∃ v147, w115.drew.cell? ⟨aw, 0, none⟩ = some v147 /\
  az w115.drew ⟨r2, 0, none⟩ 5 /\ ∀ w148, w148 = setCells w115.drew ⟨r2, 0, none⟩ 0 [(.int .i64 (0 : Int)), (.int .i64 (0 : Int)), (.int .i64 (0 : Int)), (.int .i64 (0 : Int)), (Slc.v ⟨none, 0, 0⟩)] ->
  (∃ v149, w148.cell? ⟨aw, 0, none⟩ = some v149 /\
  v149 = v147) /\
  az w148 ⟨r4, 0, none⟩ 4 /\ ∀ w150, w150 = setCells w148 ⟨r4, 0, none⟩ 0 [(.int .i64 (0 : Int)), (.int .i64 (0 : Int)), (.int .i64 (0 : Int)), (Slc.v ⟨none, 0, 0⟩)] ->
  (∃ v151, w150.cell? ⟨aw, 0, none⟩ = some v151 /\
  v151 = v147) /\
  ∃ n152 : Int, ∃ n153 : Int, ∃ n154 : Int, ∃ n155 : Int, ∃ s156 : Slc, rowAt w150 ⟨r2, 0, none⟩ 0 [(.int .i64 n152), (.int .i64 n153), (.int .i64 n154), (.int .i64 n155), (Slc.v s156)] /\
  ∃ n157 : Int, ∃ n158 : Int, ∃ n159 : Int, ∃ s160 : Slc, rowAt w150 ⟨r4, 0, none⟩ 0 [(.int .i64 n157), (.int .i64 n158), (.int .i64 n159), (Slc.v s160)] /\
  K (.tuple ⟨[(.agg ⟨[(.int .i64 n152), (.int .i64 n153), (.int .i64 n154), (.int .i64 n155), (Slc.v s156)]⟩), (.agg ⟨[(.int .i64 n157), (.int .i64 n158), (.int .i64 n159), (Slc.v s160)]⟩), (.bool false), v147]⟩) w150) (
  ∃ n161 : Int, ∃ n162 : Int, ∃ n163 : Int, ∃ n164 : Int, ∃ s165 : Slc, rowAt w115 ⟨r39, 0, none⟩ 0 [(.int .i64 n161), (.int .i64 n162), (.int .i64 n163), (.int .i64 n164), (Slc.v s165)] /\
  Calls Tryz.prog dz ⟨[(.agg ⟨[(.int .i64 n161), (.int .i64 n162), (.int .i64 n163), (.int .i64 n164), (Slc.v s165)]⟩)]⟩ w115 fun e166 w167 =>
  ∃ b168, e166 = .returned (.bool b168) /\
  BIf (!b168) (
  ∃ v169, w167.drew.cell? ⟨aw, 0, none⟩ = some v169 /\
  az w167.drew ⟨r2, 0, none⟩ 5 /\ ∀ w170, w170 = setCells w167.drew ⟨r2, 0, none⟩ 0 [(.int .i64 (0 : Int)), (.int .i64 (0 : Int)), (.int .i64 (0 : Int)), (.int .i64 (0 : Int)), (Slc.v ⟨none, 0, 0⟩)] ->
  (∃ v171, w170.cell? ⟨aw, 0, none⟩ = some v171 /\
  v171 = v169) /\
  az w170 ⟨r4, 0, none⟩ 4 /\ ∀ w172, w172 = setCells w170 ⟨r4, 0, none⟩ 0 [(.int .i64 (0 : Int)), (.int .i64 (0 : Int)), (.int .i64 (0 : Int)), (Slc.v ⟨none, 0, 0⟩)] ->
  (∃ v173, w172.cell? ⟨aw, 0, none⟩ = some v173 /\
  v173 = v169) /\
  ∃ n174 : Int, ∃ n175 : Int, ∃ n176 : Int, ∃ n177 : Int, ∃ s178 : Slc, rowAt w172 ⟨r2, 0, none⟩ 0 [(.int .i64 n174), (.int .i64 n175), (.int .i64 n176), (.int .i64 n177), (Slc.v s178)] /\
  ∃ n179 : Int, ∃ n180 : Int, ∃ n181 : Int, ∃ s182 : Slc, rowAt w172 ⟨r4, 0, none⟩ 0 [(.int .i64 n179), (.int .i64 n180), (.int .i64 n181), (Slc.v s182)] /\
  K (.tuple ⟨[(.agg ⟨[(.int .i64 n174), (.int .i64 n175), (.int .i64 n176), (.int .i64 n177), (Slc.v s178)]⟩), (.agg ⟨[(.int .i64 n179), (.int .i64 n180), (.int .i64 n181), (Slc.v s182)]⟩), (.bool false), v169]⟩) w172) (
  ∃ n183 : Int, ∃ n184 : Int, ∃ n185 : Int, ∃ n186 : Int, ∃ s187 : Slc, rowAt w167 ⟨r39, 0, none⟩ 0 [(.int .i64 n183), (.int .i64 n184), (.int .i64 n185), (.int .i64 n186), (Slc.v s187)] /\
  az w167 ⟨r2, 0, none⟩ 5 /\ ∀ w188, w188 = setCells w167 ⟨r2, 0, none⟩ 0 [(.int .i64 n183), (.int .i64 n184), (.int .i64 n185), (.int .i64 n186), (Slc.v s187)] ->
  az w188 ⟨r4, 0, none⟩ 4 /\ ∀ w189, w189 = setCells w188 ⟨r4, 0, none⟩ 0 [(.int .i64 (0 : Int)), (.int .i64 (0 : Int)), (.int .i64 (0 : Int)), (Slc.v ⟨none, 0, 0⟩)] ->
  ∃ n190 : Int, ∃ n191 : Int, ∃ n192 : Int, ∃ n193 : Int, ∃ s194 : Slc, rowAt w189 ⟨r2, 0, none⟩ 0 [(.int .i64 n190), (.int .i64 n191), (.int .i64 n192), (.int .i64 n193), (Slc.v s194)] /\
  ∃ n195 : Int, ∃ n196 : Int, ∃ n197 : Int, ∃ s198 : Slc, rowAt w189 ⟨r4, 0, none⟩ 0 [(.int .i64 n195), (.int .i64 n196), (.int .i64 n197), (Slc.v s198)] /\
  K (.tuple ⟨[(.agg ⟨[(.int .i64 n190), (.int .i64 n191), (.int .i64 n192), (.int .i64 n193), (Slc.v s194)]⟩), (.agg ⟨[(.int .i64 n195), (.int .i64 n196), (.int .i64 n197), (Slc.v s198)]⟩), (.bool true), .nilIface]⟩) w189)))))))
theorem y9 (b1 : Slc) {w : World} {R : Ending -> World -> Prop} (h : yf b1 w fun v w' => R (.returned v) w') : Calls Tryz.prog jN ⟨[(Slc.v b1)]⟩ w R :=
  ab (ann := (.two .none (.two .none (.two .none (.two .none (.two .none (.two .none (.two .none (.two .none (.cut [] (List.range' 35 28) .none .none)))))))))) ah mixed Tryz.func36 (Eq.mp (by kernel_rfl) h)
def jG (n1 : Int) (most2 : Int) (w : World) (K : Value -> World -> Prop) : Prop :=
  BIf (decide ((0 : Int) <= n1)) (
  K (.bool (decide (n1 <= most2))) w) (
  K (.bool false) w)
theorem mK (n1 : Int) (most2 : Int) {w : World} {R : Ending -> World -> Prop} (h : jG n1 most2 w fun v w' => R (.returned v) w') : Calls Tryz.prog bX ⟨[(.int .i64 n1), (.int .i64 most2)]⟩ w R :=
  ab (ann := .none) ah mixed Tryz.func52 (Eq.mp (by kernel_rfl) h)
def gU (r1 : Int) (r2 : Int) (r3 : Int) (r4 : Int) (r5 : Slc) (w : World) (K : Value -> World -> Prop) : Prop :=
  aH w (.cells ⟨[(.int .i64 r1), (.int .i64 r2), (.int .i64 r3), (.int .i64 r4), (Slc.v r5)]⟩ 57) fun r6 w7 =>
  ∃ n8, w7.cell? ⟨r6, 0, none⟩ = some (.int .i64 n8) /\
  Calls Tryz.prog bX ⟨[(.int .i64 n8), (.int .i64 (1073741824 : Int))]⟩ w7 fun e9 w10 =>
  ∃ b11, e9 = .returned (.bool b11) /\
  BIf b11 (
  ∃ n12, w10.cell? ⟨r6, 1, none⟩ = some (.int .i64 n12) /\
  BIf (decide ((1 : Int) <= n12)) (
  ∃ n13, w10.cell? ⟨r6, 1, none⟩ = some (.int .i64 n13) /\
  BIf (decide (n13 <= (5 : Int))) (
  ∃ n14, w10.cell? ⟨r6, 2, none⟩ = some (.int .i64 n14) /\
  Calls Tryz.prog bX ⟨[(.int .i64 n14), (.int .i64 (1073741824 : Int))]⟩ w10 fun e15 w16 =>
  ∃ b17, e15 = .returned (.bool b17) /\
  BIf b17 (
  ∃ n18, w16.cell? ⟨r6, 3, none⟩ = some (.int .i64 n18) /\
  Calls Tryz.prog bX ⟨[(.int .i64 n18), (.int .i64 (4096 : Int))]⟩ w16 fun e19 w20 =>
  ∃ b21, e19 = .returned (.bool b21) /\
  BIf b21 (
  ∃ s22, w20.cell? ⟨r6, 4, none⟩ = some (Slc.v s22) /\
  BIf (decide ((s22.l : Int) <= (2000 : Int))) (
  ∃ n23, w20.cell? ⟨r6, 1, none⟩ = some (.int .i64 n23) /\
  BIf (decide (n23 = (1 : Int))) (
  K (.bool true) w20) (
  ∃ s24, w20.cell? ⟨r6, 4, none⟩ = some (Slc.v s24) /\
  K (.bool (decide ((s24.l : Int) = (0 : Int)))) w20)) (
  K (.bool false) w20)) (
  K (.bool false) w20)) (
  K (.bool false) w16)) (
  K (.bool false) w10)) (
  K (.bool false) w10)) (
  K (.bool false) w10)
theorem j9 (r1 : Int) (r2 : Int) (r3 : Int) (r4 : Int) (r5 : Slc) {w : World} {R : Ending -> World -> Prop} (h : gU r1 r2 r3 r4 r5 w fun v w' => R (.returned v) w') : Calls Tryz.prog de ⟨[(.agg ⟨[(.int .i64 r1), (.int .i64 r2), (.int .i64 r3), (.int .i64 r4), (Slc.v r5)]⟩)]⟩ w R :=
  ab (ann := .none) ah mixed Tryz.func17 (Eq.mp (by kernel_rfl) h)
def iN (data1 : Slc) (l2 : Slc) (w : World) (K : Value -> World -> Prop) : Prop :=
  aH w (.cells ⟨[]⟩ 5) fun r3 w4 =>
  ∃ (I5 : (Slc) -> (Int) -> World -> Prop) (mu6 : (Slc) -> (Int) -> World -> Nat), I5 ((⟨(some ⟨r3, 0, none⟩), 0, 0⟩ : Slc)) ((0 : Int)) w4 /\ (
  ∀ out7 : Slc, ∀ i8 : Int, ∀ w9 : World, I5 out7 i8 w9 -> ∀ _ _ _ _ _ _ _ _ _ : Value,
  BIf (decide (i8 < (l2.l : Int))) (
  needSome l2.p fun a19 =>
  0 <= i8 /\ i8 < (l2.l : Int) /\
  ∃ n20, w9.cell? (Addr.add a19 ((Int.toNat i8) * 1)) = some (.int .i64 n20) /\
  Calls Tryz.prog bH ⟨[(.int .i64 n20)]⟩ w9 fun e21 w22 =>
  ∃ s23, e21 = .returned (Slc.v s23) /\
  aK 1 5 [(.int .u8 (0 : Int))] w22 out7 (.slc s23) fun s24 w25 =>
  inR .i64 (i8 + (1 : Int)) /\
  (I5 (s24) ((i8 + (1 : Int))) w25 /\ mu6 (s24) ((i8 + (1 : Int))) w25 < mu6 out7 i8 w9)) (
  ∃ t26 : List UInt8, ag w9 data1 t26 /\
  Calls Tryz.prog eU ⟨[(fG t26)]⟩ w9 fun e27 w28 =>
  ∃ s29, e27 = .returned (Slc.v s29) /\
  aK 1 5 [(.int .u8 (0 : Int))] w28 out7 (.slc s29) fun s30 w31 =>
  Calls Tryz.prog cN ⟨[(Slc.v s30)]⟩ w31 fun e32 w33 =>
  ∃ s34, e32 = .returned (Slc.v s34) /\
  K (Slc.v s34) w33))
theorem lD (data1 : Slc) (l2 : Slc) {w : World} {R : Ending -> World -> Prop} (h : iN data1 l2 w fun v w' => R (.returned v) w') : Calls Tryz.prog dK ⟨[(Slc.v data1), (Slc.v l2)]⟩ w R :=
  ab (ann := (.two .none (.two .none (.two (.two .none (.one (.loop [(5, Sh.slc), (11, (Sh.int .i64))] ([7] ++ List.range' 12 8) .none))) .none)))) ah mixed Tryz.func50 (Eq.mp (by kernel_rfl) h)
def ka (r1 : Int) (r2 : Int) (r3 : Int) (r4 : Int) (r5 : Slc) (w : World) (K : Value -> World -> Prop) : Prop :=
  aH w (.cells ⟨[(.int .i64 r1), (.int .i64 r2), (.int .i64 r3), (.int .i64 r4), (Slc.v r5)]⟩ 57) fun r6 w7 =>
  ∃ s8, w7.cell? ⟨r6, 4, none⟩ = some (Slc.v s8) /\
  ∃ n9, w7.cell? ⟨r6, 0, none⟩ = some (.int .i64 n9) /\
  ∃ n10, w7.cell? ⟨r6, 1, none⟩ = some (.int .i64 n10) /\
  ∃ n11, w7.cell? ⟨r6, 2, none⟩ = some (.int .i64 n11) /\
  ∃ n12, w7.cell? ⟨r6, 3, none⟩ = some (.int .i64 n12) /\
  aH w7 (.cells ⟨[(.int .i64 (1 : Int)), (.int .i64 n9), (.int .i64 n10), (.int .i64 n11), (.int .i64 n12)]⟩ 3) fun r13 w14 =>
  Calls Tryz.prog dK ⟨[(Slc.v s8), (Slc.v (⟨(some ⟨r13, 0, none⟩), 5, 5⟩ : Slc))]⟩ w14 fun e15 w16 =>
  ∃ s17, e15 = .returned (Slc.v s17) /\
  K (Slc.v s17) w16
theorem nY (r1 : Int) (r2 : Int) (r3 : Int) (r4 : Int) (r5 : Slc) {w : World} {R : Ending -> World -> Prop} (h : ka r1 r2 r3 r4 r5 w fun v w' => R (.returned v) w') : Calls Tryz.prog fj ⟨[(.agg ⟨[(.int .i64 r1), (.int .i64 r2), (.int .i64 r3), (.int .i64 r4), (Slc.v r5)]⟩)]⟩ w R :=
  ab (ann := .none) ah mixed Tryz.func18 (Eq.mp (by kernel_rfl) h)
def jH (b1 : Slc) (w : World) (K : Value -> World -> Prop) : Prop :=
  aH w (.cells ⟨[(.int .i64 (0 : Int)), (.int .i64 (0 : Int)), (.int .i64 (0 : Int)), (.int .i64 (0 : Int)), (Slc.v ⟨none, 0, 0⟩)]⟩ 57) fun r2 w3 =>
  aH w3 (.cells ⟨[(.int .i64 (0 : Int)), (.int .i64 (0 : Int)), (.int .i64 (0 : Int)), (Slc.v ⟨none, 0, 0⟩)]⟩ 37) fun r4 w5 =>
  aH w5 (.cells ⟨[(.int .i64 (0 : Int)), (.int .i64 (0 : Int)), (.int .i64 (0 : Int)), (.int .i64 (0 : Int)), (Slc.v ⟨none, 0, 0⟩)]⟩ 57) fun r6 w7 =>
  aH w7 (.cells ⟨[(.int .i64 (0 : Int)), (.int .i64 (0 : Int)), (.int .i64 (0 : Int)), (Slc.v ⟨none, 0, 0⟩)]⟩ 37) fun r8 w9 =>
  az w9 ⟨r6, 0, none⟩ 5 /\ ∀ w10, w10 = setCells w9 ⟨r6, 0, none⟩ 0 [(.int .i64 (0 : Int)), (.int .i64 (0 : Int)), (.int .i64 (0 : Int)), (.int .i64 (0 : Int)), (Slc.v ⟨none, 0, 0⟩)] ->
  az w10 ⟨r8, 0, none⟩ 4 /\ ∀ w11, w11 = setCells w10 ⟨r8, 0, none⟩ 0 [(.int .i64 (0 : Int)), (.int .i64 (0 : Int)), (.int .i64 (0 : Int)), (Slc.v ⟨none, 0, 0⟩)] ->
  Calls Tryz.prog eR ⟨[(Slc.v b1)]⟩ w11 fun e12 w13 =>
  ∃ s14 : Slc, ∃ s15 : Slc, ∃ n16, e12 = .returned (.tuple ⟨[(Slc.v s14), (Slc.v s15), (.int .i64 n16)]⟩) /\
  ∃ J17 : (Int) -> World -> Prop,
  (
  BIf (decide (n16 = (0 : Int))) (
  BIf (decide ((0 : Int) < (s15.l : Int))) (
  J17 ((4 : Int)) w13) (
  J17 (n16) w13)) (
  J17 (n16) w13)) /\ (
  ∀ e18 : Int, ∀ w19 : World, J17 e18 w19 -> ∀ _ _ _ _ _ _ _ : Value,
  BIf (!decide (e18 = (0 : Int))) (
  ∃ n27 : Int, ∃ n28 : Int, ∃ n29 : Int, ∃ n30 : Int, ∃ s31 : Slc, rowAt w19.drew ⟨r6, 0, none⟩ 0 [(.int .i64 n27), (.int .i64 n28), (.int .i64 n29), (.int .i64 n30), (Slc.v s31)] /\
  ∃ n32 : Int, ∃ n33 : Int, ∃ n34 : Int, ∃ s35 : Slc, rowAt w19.drew ⟨r8, 0, none⟩ 0 [(.int .i64 n32), (.int .i64 n33), (.int .i64 n34), (Slc.v s35)] /\
  az w19.drew ⟨r2, 0, none⟩ 5 /\ ∀ w36, w36 = setCells w19.drew ⟨r2, 0, none⟩ 0 [(.int .i64 n27), (.int .i64 n28), (.int .i64 n29), (.int .i64 n30), (Slc.v s31)] ->
  (∃ n37 : Int, ∃ n38 : Int, ∃ n39 : Int, ∃ s40 : Slc, rowAt w36 ⟨r8, 0, none⟩ 0 [(.int .i64 n37), (.int .i64 n38), (.int .i64 n39), (Slc.v s40)] /\
  (Value.agg ⟨[(Value.int .i64 n37), (Value.int .i64 n38), (Value.int .i64 n39), (Slc.v s40)]⟩) = (Value.agg ⟨[(Value.int .i64 n32), (Value.int .i64 n33), (Value.int .i64 n34), (Slc.v s35)]⟩)) /\
  az w36 ⟨r4, 0, none⟩ 4 /\ ∀ w41, w41 = setCells w36 ⟨r4, 0, none⟩ 0 [(.int .i64 n32), (.int .i64 n33), (.int .i64 n34), (Slc.v s35)] ->
  ∃ n42 : Int, ∃ n43 : Int, ∃ n44 : Int, ∃ n45 : Int, ∃ s46 : Slc, rowAt w41 ⟨r2, 0, none⟩ 0 [(.int .i64 n42), (.int .i64 n43), (.int .i64 n44), (.int .i64 n45), (Slc.v s46)] /\
  ∃ n47 : Int, ∃ n48 : Int, ∃ n49 : Int, ∃ s50 : Slc, rowAt w41 ⟨r4, 0, none⟩ 0 [(.int .i64 n47), (.int .i64 n48), (.int .i64 n49), (Slc.v s50)] /\
  K (.tuple ⟨[(.agg ⟨[(.int .i64 n42), (.int .i64 n43), (.int .i64 n44), (.int .i64 n45), (Slc.v s46)]⟩), (.agg ⟨[(.int .i64 n47), (.int .i64 n48), (.int .i64 n49), (Slc.v s50)]⟩), (.int .i64 (0 : Int)), (.int .i64 e18)]⟩) w41) (
  aH w19 (.cells ⟨[(Slc.v s14), (.int .i64 (0 : Int))]⟩ 133) fun r51 w52 =>
  Calls Tryz.prog aG ⟨[(.pointer (some ⟨r51, 0, none⟩)), (.int .i64 (2 : Int))]⟩ w52 fun e53 w54 =>
  ∃ n55, e53 = .returned (.int .i64 n55) /\
  ∃ J56 : World -> Prop,
  (
  BIf (decide (n55 = (2 : Int))) (
  Calls Tryz.prog aG ⟨[(.pointer (some ⟨r51, 0, none⟩)), (.int .i64 (1073741824 : Int))]⟩ w54 fun e57 w58 =>
  ∃ n59, e57 = .returned (.int .i64 n59) /\
  az w58 ⟨r8, 0, none⟩ 1 /\ ∀ w60, w60 = w58.setCell ⟨r8, 0, none⟩ (.int .i64 n59) ->
  Calls Tryz.prog aG ⟨[(.pointer (some ⟨r51, 0, none⟩)), (.int .i64 (19 : Int))]⟩ w60 fun e61 w62 =>
  ∃ n63, e61 = .returned (.int .i64 n63) /\
  az w62 ⟨r8, 1, none⟩ 1 /\ ∀ w64, w64 = w62.setCell ⟨r8, 1, none⟩ (.int .i64 n63) ->
  Calls Tryz.prog aG ⟨[(.pointer (some ⟨r51, 0, none⟩)), (.int .i64 (4096 : Int))]⟩ w64 fun e65 w66 =>
  ∃ n67, e65 = .returned (.int .i64 n67) /\
  az w66 ⟨r8, 2, none⟩ 1 /\ ∀ w68, w68 = w66.setCell ⟨r8, 2, none⟩ (.int .i64 n67) ->
  Calls Tryz.prog bD ⟨[(.pointer (some ⟨r51, 0, none⟩)), (.int .i64 (2000 : Int))]⟩ w68 fun e69 w70 =>
  ∃ t71 : List UInt8, e69 = .returned (fG t71) /\
  ot Tryz.prog 5 t71 w70 fun s72 w73 =>
  az w73 ⟨r8, 3, none⟩ 1 /\ ∀ w74, w74 = w73.setCell ⟨r8, 3, none⟩ (Slc.v s72) ->
  J56 w74) (
  Calls Tryz.prog aG ⟨[(.pointer (some ⟨r51, 0, none⟩)), (.int .i64 (1073741824 : Int))]⟩ w54 fun e75 w76 =>
  ∃ n77, e75 = .returned (.int .i64 n77) /\
  az w76 ⟨r6, 0, none⟩ 1 /\ ∀ w78, w78 = w76.setCell ⟨r6, 0, none⟩ (.int .i64 n77) ->
  Calls Tryz.prog aG ⟨[(.pointer (some ⟨r51, 0, none⟩)), (.int .i64 (5 : Int))]⟩ w78 fun e79 w80 =>
  ∃ n81, e79 = .returned (.int .i64 n81) /\
  az w80 ⟨r6, 1, none⟩ 1 /\ ∀ w82, w82 = w80.setCell ⟨r6, 1, none⟩ (.int .i64 n81) ->
  Calls Tryz.prog aG ⟨[(.pointer (some ⟨r51, 0, none⟩)), (.int .i64 (1073741824 : Int))]⟩ w82 fun e83 w84 =>
  ∃ n85, e83 = .returned (.int .i64 n85) /\
  az w84 ⟨r6, 2, none⟩ 1 /\ ∀ w86, w86 = w84.setCell ⟨r6, 2, none⟩ (.int .i64 n85) ->
  Calls Tryz.prog aG ⟨[(.pointer (some ⟨r51, 0, none⟩)), (.int .i64 (4096 : Int))]⟩ w86 fun e87 w88 =>
  ∃ n89, e87 = .returned (.int .i64 n89) /\
  az w88 ⟨r6, 3, none⟩ 1 /\ ∀ w90, w90 = w88.setCell ⟨r6, 3, none⟩ (.int .i64 n89) ->
  Calls Tryz.prog bD ⟨[(.pointer (some ⟨r51, 0, none⟩)), (.int .i64 (2000 : Int))]⟩ w90 fun e91 w92 =>
  ∃ t93 : List UInt8, e91 = .returned (fG t93) /\
  ot Tryz.prog 5 t93 w92 fun s94 w95 =>
  az w95 ⟨r6, 4, none⟩ 1 /\ ∀ w96, w96 = w95.setCell ⟨r6, 4, none⟩ (Slc.v s94) ->
  J56 w96)) /\ (
  ∀ w97 : World, J56 w97 -> ∀ _ _ _ _ _ _ _ _ _ _ _ _ _ _ _ _ _ _ _ _ _ _ _ _ _ _ _ _ _ _ _ : Value,
  Calls Tryz.prog dL ⟨[(.pointer (some ⟨r51, 0, none⟩))]⟩ w97 fun e129 w130 =>
  ∃ n131, e129 = .returned (.int .i64 n131) /\
  ∃ J132 : (Int) -> World -> Prop,
  (
  BIf (decide (n131 = (0 : Int))) (
  BIf (!decide (n55 = (2 : Int))) (
  BIf (!decide (n55 = (1 : Int))) (
  J132 ((4 : Int)) w130) (
  ∃ n133 : Int, ∃ n134 : Int, ∃ n135 : Int, ∃ n136 : Int, ∃ s137 : Slc, rowAt w130 ⟨r6, 0, none⟩ 0 [(.int .i64 n133), (.int .i64 n134), (.int .i64 n135), (.int .i64 n136), (Slc.v s137)] /\
  Calls Tryz.prog de ⟨[(.agg ⟨[(.int .i64 n133), (.int .i64 n134), (.int .i64 n135), (.int .i64 n136), (Slc.v s137)]⟩)]⟩ w130 fun e138 w139 =>
  ∃ b140, e138 = .returned (.bool b140) /\
  BIf (!b140) (
  J132 ((4 : Int)) w139) (
  J132 (n131) w139))) (
  J132 (n131) w130)) (
  J132 (n131) w130)) /\ (
  ∀ e141 : Int, ∀ w142 : World, J132 e141 w142 -> ∀ _ _ _ _ _ _ _ _ _ _ _ _ _ _ _ : Value,
  BIf (!decide (e141 = (0 : Int))) (
  az w142 ⟨r2, 0, none⟩ 5 /\ ∀ w158, w158 = setCells w142 ⟨r2, 0, none⟩ 0 [(.int .i64 (0 : Int)), (.int .i64 (0 : Int)), (.int .i64 (0 : Int)), (.int .i64 (0 : Int)), (Slc.v ⟨none, 0, 0⟩)] ->
  az w158 ⟨r4, 0, none⟩ 4 /\ ∀ w159, w159 = setCells w158 ⟨r4, 0, none⟩ 0 [(.int .i64 (0 : Int)), (.int .i64 (0 : Int)), (.int .i64 (0 : Int)), (Slc.v ⟨none, 0, 0⟩)] ->
  ∃ n160 : Int, ∃ n161 : Int, ∃ n162 : Int, ∃ n163 : Int, ∃ s164 : Slc, rowAt w159 ⟨r2, 0, none⟩ 0 [(.int .i64 n160), (.int .i64 n161), (.int .i64 n162), (.int .i64 n163), (Slc.v s164)] /\
  ∃ n165 : Int, ∃ n166 : Int, ∃ n167 : Int, ∃ s168 : Slc, rowAt w159 ⟨r4, 0, none⟩ 0 [(.int .i64 n165), (.int .i64 n166), (.int .i64 n167), (Slc.v s168)] /\
  K (.tuple ⟨[(.agg ⟨[(.int .i64 n160), (.int .i64 n161), (.int .i64 n162), (.int .i64 n163), (Slc.v s164)]⟩), (.agg ⟨[(.int .i64 n165), (.int .i64 n166), (.int .i64 n167), (Slc.v s168)]⟩), (.int .i64 (0 : Int)), (.int .i64 e141)]⟩) w159) (
  ∃ n169 : Int, ∃ n170 : Int, ∃ n171 : Int, ∃ n172 : Int, ∃ s173 : Slc, rowAt w142.drew ⟨r6, 0, none⟩ 0 [(.int .i64 n169), (.int .i64 n170), (.int .i64 n171), (.int .i64 n172), (Slc.v s173)] /\
  ∃ n174 : Int, ∃ n175 : Int, ∃ n176 : Int, ∃ s177 : Slc, rowAt w142.drew ⟨r8, 0, none⟩ 0 [(.int .i64 n174), (.int .i64 n175), (.int .i64 n176), (Slc.v s177)] /\
  az w142.drew ⟨r2, 0, none⟩ 5 /\ ∀ w178, w178 = setCells w142.drew ⟨r2, 0, none⟩ 0 [(.int .i64 n169), (.int .i64 n170), (.int .i64 n171), (.int .i64 n172), (Slc.v s173)] ->
  (∃ n179 : Int, ∃ n180 : Int, ∃ n181 : Int, ∃ s182 : Slc, rowAt w178 ⟨r8, 0, none⟩ 0 [(.int .i64 n179), (.int .i64 n180), (.int .i64 n181), (Slc.v s182)] /\
  (Value.agg ⟨[(Value.int .i64 n179), (Value.int .i64 n180), (Value.int .i64 n181), (Slc.v s182)]⟩) = (Value.agg ⟨[(Value.int .i64 n174), (Value.int .i64 n175), (Value.int .i64 n176), (Slc.v s177)]⟩)) /\
  az w178 ⟨r4, 0, none⟩ 4 /\ ∀ w183, w183 = setCells w178 ⟨r4, 0, none⟩ 0 [(.int .i64 n174), (.int .i64 n175), (.int .i64 n176), (Slc.v s177)] ->
  ∃ n184 : Int, ∃ n185 : Int, ∃ n186 : Int, ∃ n187 : Int, ∃ s188 : Slc, rowAt w183 ⟨r2, 0, none⟩ 0 [(.int .i64 n184), (.int .i64 n185), (.int .i64 n186), (.int .i64 n187), (Slc.v s188)] /\
  ∃ n189 : Int, ∃ n190 : Int, ∃ n191 : Int, ∃ s192 : Slc, rowAt w183 ⟨r4, 0, none⟩ 0 [(.int .i64 n189), (.int .i64 n190), (.int .i64 n191), (Slc.v s192)] /\
  K (.tuple ⟨[(.agg ⟨[(.int .i64 n184), (.int .i64 n185), (.int .i64 n186), (.int .i64 n187), (Slc.v s188)]⟩), (.agg ⟨[(.int .i64 n189), (.int .i64 n190), (.int .i64 n191), (Slc.v s192)]⟩), (.int .i64 n55), (.int .i64 (0 : Int))]⟩) w183)))))
theorem mL (b1 : Slc) {w : World} {R : Ending -> World -> Prop} (h : jH b1 w fun v w' => R (.returned v) w') : Calls Tryz.prog eL ⟨[(Slc.v b1)]⟩ w R :=
  ab (ann := (.two .none (.two .none (.two .none (.cut [(10, (Sh.int .i64))] [21, 22, 23, 24, 25, 26, 27] .none (.two .none (.two .none (.two .none (.cut [] (List.range' 38 31) .none (.two .none (.cut [(10, (Sh.int .i64))] (List.range' 71 15) .none .none))))))))))) ah mixed Tryz.func20 (Eq.mp (by kernel_rfl) h)
end Go.D

