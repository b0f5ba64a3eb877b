/-
  WHAT IS PROVED: verification conditions of functions of this program, each with its soundness. No further conditions.
-/
import Derived.Test.YtnbddjghhmbmcaaGreatDoorBase
set_option linter.unusedSimpArgs false
set_option maxRecDepth 100000
set_option linter.unusedVariables false
namespace Go.D
open Go Go.Proofs
def mB (g1 : Option Addr) (cap2 : Option Addr) (w : World) (K : Value -> World -> Prop) : Prop :=
  needSome g1 fun a3 =>
  ∃ n4, w.drew.cell? a3 = some (.int .i64 n4) /\
  needSome cap2 fun a5 =>
  ∃ n6, w.drew.cell? a5 = some (.int .i64 n6) /\
  K (.bool (decide (n4 = n6))) w.drew
theorem qp (g1 : Option Addr) (cap2 : Option Addr) {w : World} {R : Ending -> World -> Prop} (h : mB g1 cap2 w fun v w' => R (.returned v) w') : Calls Tryz.prog gv ⟨[(.pointer g1), (.pointer cap2)]⟩ w R :=
  ab (ann := .none) ag mixed Tryz.func161 (Eq.mp (by kernel_rfl) h)
def bU (s1 : Slc) (c2 : Option Addr) (w : World) (K : Value -> World -> Prop) : Prop :=
  Calls Tryz.prog cj ⟨[s1.v, (.func (.func 161) ⟨[]⟩ ⟨[(.pointer c2)]⟩)]⟩ w fun e3 w4 =>
  ∃ n5, e3 = .returned (.int .i64 n5) /\
  K (.bool (decide (0 <= n5))) w4
theorem ei (s1 : Slc) (c2 : Option Addr) {w : World} {R : Ending -> World -> Prop} (h : bU s1 c2 w fun v w' => R (.returned v) w') : Calls Tryz.prog cO ⟨[s1.v, (.func (.func 161) ⟨[]⟩ ⟨[(.pointer c2)]⟩)]⟩ w R :=
  ab (ann := .none) ag mixed Tryz.func160 (Eq.mp (by kernel_rfl) h)
def cv (s1 : Slc) (c2 : Option Addr) (w : World) (K : Value -> World -> Prop) : Prop :=
  ∃ (I3 : (Int) -> World -> Prop) (mu4 : (Int) -> World -> Nat), I3 ((0 : Int)) w /\ (
  ∀ i5 : Int, ∀ w6 : World, I3 i5 w6 -> ∀ _ _ _ _ _ _ _ _ _ _ _ _ : Value,
  BIf (decide (i5 < (s1.l : Int))) (
  needSome s1.p fun a19 =>
  0 <= i5 /\ i5 < (s1.l : Int) /\
  ∃ p20 : Option Addr, w6.cell? (Addr.add a19 ((Int.toNat i5) * 1)) = some (.pointer p20) /\
  Calls Tryz.prog gv ⟨[(.pointer p20), (.pointer c2)]⟩ w6 fun e21 w22 =>
  ∃ b23, e21 = .returned (.bool b23) /\
  BIf b23 (
  K (.int .i64 i5) w22) (
  inR .i64 (i5 + 1) /\
  (I3 ((i5 + 1)) w22 /\ mu4 ((i5 + 1)) w22 < mu4 i5 w6))) (
  K (.int .i64 (-1 : Int)) w6))
theorem eU (s1 : Slc) (c2 : Option Addr) {w : World} {R : Ending -> World -> Prop} (h : cv s1 c2 w fun v w' => R (.returned v) w') : Calls Tryz.prog cj ⟨[s1.v, (.func (.func 161) ⟨[]⟩ ⟨[(.pointer c2)]⟩)]⟩ w R :=
  ab (ann := (.two .none (.two (.two .none (.one (.loop [(8, (Sh.int .i64))] ([4, 5] ++ List.range' 9 10) .none))) .none))) ag mixed Tryz.func141 (Eq.mp (by kernel_rfl) h)
def pC (s1 : Option Addr) (w : World) (K : Value -> World -> Prop) : Prop :=
  Calls Tryz.prog dR ⟨[(.pointer s1)]⟩ w fun e2 w3 =>
  ∃ n4, e2 = .returned (.int .i64 n4) /\
  ∃ (I5 : (Int) -> World -> Prop) (mu6 : (Int) -> World -> Nat), I5 ((0 : Int)) w3 /\ (
  ∀ i7 : Int, ∀ w8 : World, I5 i7 w8 -> ∀ _ _ _ _ _ _ _ _ _ _ _ _ _ : Value,
  BIf (decide (i7 < n4)) (
  aA w8 (.cells ⟨[(.int .i64 0)]⟩ 3) fun r22 w23 =>
  aw w23 ⟨r22, 0, none⟩ 1 /\ ∀ w24, w24 = w23.setCell ⟨r22, 0, none⟩ (.int .i64 i7) ->
  needSome s1 fun a25 =>
  ∃ s26, w24.cell? (a25.add 1) = some (Slc.v s26) /\
  Calls Tryz.prog cO ⟨[s26.v, (.func (.func 161) ⟨[]⟩ ⟨[(.pointer (some ⟨r22, 0, none⟩))]⟩)]⟩ w24 fun e27 w28 =>
  ∃ b29, e27 = .returned (.bool b29) /\
  BIf (!b29) (
  ∃ n30, w28.cell? ⟨r22, 0, none⟩ = some (.int .i64 n30) /\
  K (.int .i64 n30) w28) (
  inR .i64 (i7 + 1) /\
  (I5 ((i7 + 1)) w28 /\ mu6 ((i7 + 1)) w28 < mu6 i7 w8))) (
  K (.int .i64 (-1 : Int)) w8))
theorem rU (s1 : Option Addr) {w : World} {R : Ending -> World -> Prop} (h : pC s1 w fun v w' => R (.returned v) w') : Calls Tryz.prog iH ⟨[(.pointer s1)]⟩ w R :=
  ab (ann := (.two .none (.two (.two .none (.one (.loop [(6, (Sh.int .i64))] ([2, 3] ++ List.range' 7 11) .none))) .none))) ag mixed Tryz.func150 (Eq.mp (by kernel_rfl) h)
def pD (s1 : Option Addr) (w : World) (K : Value -> World -> Prop) : Prop :=
  Calls Tryz.prog iH ⟨[(.pointer s1)]⟩ w fun e2 w3 =>
  ∃ n4, e2 = .returned (.int .i64 n4) /\
  BIf (decide (n4 < 0)) (
  ∃ v5, w3.cell? ⟨lG, 0, none⟩ = some v5 /\
  K v5 w3) (
  ∃ (I6 : (Int) -> World -> Prop) (mu7 : (Int) -> World -> Nat), I6 ((0 : Int)) w3 /\ (
  ∀ i8 : Int, ∀ w9 : World, I6 i8 w9 -> ∀ _ _ _ _ _ _ _ _ _ _ _ _ _ _ : Value,
  BIf (decide (i8 < 64)) (
  0 <= (64 : Int) /\ (64 : Int) <= (64 : Int) /\ (64 : Int) <= 2 ^ 30 /\
  aA w9 (.cells ⟨bI 64 [(.int .u8 0)]⟩ 5) fun r24 w25 =>
  Calls Tryz.prog cA ⟨[(.pointer s1), (.int .i64 n4), (.int .i64 i8), (Slc.v (⟨(some ⟨r24, 0, none⟩), 64, 64⟩ : Slc))]⟩ w25 fun e26 w27 =>
  ∃ e28, e26 = .returned e28 /\
  isI e28 /\
  BIf (!isNilI e28) (
  K e28 w27) (
  inR .i64 (i8 + 1) /\
  (I6 ((i8 + 1)) w27 /\ mu7 ((i8 + 1)) w27 < mu7 i8 w9))) (
  needSome s1 fun a29 =>
  ∃ p30 : Option Addr, w9.cell? a29 = some (.pointer p30) /\
  Calls Tryz.prog b7 ⟨[(.pointer p30)]⟩ w9 fun e31 w32 =>
  ∃ e33, e31 = .returned e33 /\
  isI e33 /\
  BIf (!isNilI e33) (
  K e33 w32) (
  Calls Tryz.prog fH ⟨[(.pointer s1)]⟩ w32 fun e34 w35 =>
  ∃ n36, e34 = .returned (.int .i64 n36) /\
  inR .i64 (n36 + 1) /\
  Calls Tryz.prog jf ⟨[(.int .i64 (n36 + 1)), (.int .u8 1)]⟩ w35 fun e37 w38 =>
  ∃ s39, e37 = .returned (Slc.v s39) /\
  Calls Tryz.prog dU ⟨[(.pointer s1), (.int .i64 n4), (.int .i64 0), s39.v]⟩ w38 fun e40 w41 =>
  ∃ e42, e40 = .returned e42 /\
  isI e42 /\
  BIf (!isNilI e42) (
  K e42 w41) (
  needSome s1 fun a43 =>
  ∃ s44, w41.cell? (a43.add 1) = some (Slc.v s44) /\
  aA w41 (.cells ⟨[(.int .i64 n4), (.int .i64 (n36 + 1)), (Slc.v ⟨none, 0, 0⟩), (.int .i64 1)]⟩ 182) fun r45 w46 =>
  aA w46 (.cells ⟨[(.pointer (some ⟨r45, 0, none⟩))]⟩ 177) fun r47 w48 =>
  ak 1 177 [(.pointer none)] w48 s44 (.slc (⟨(some ⟨r47, 0, none⟩), 1, 1⟩ : Slc)) fun s49 w50 =>
  needSome s1 fun a51 =>
  aw w50 (a51.add 1) 1 /\ ∀ w52, w52 = w50.setCell (a51.add 1) (Slc.v s49) ->
  K .nilIface w52)))))
theorem rV (s1 : Option Addr) {w : World} {R : Ending -> World -> Prop} (h : pD s1 w fun v w' => R (.returned v) w') : Calls Tryz.prog dT ⟨[(.pointer s1)]⟩ w R :=
  ab (ann := (.two .none (.two .none (.two .none (.two (.two .none (.one (.loop [(14, (Sh.int .i64))] ([2, 4, 5] ++ List.range' 15 11) .none))) .none))))) ag mixed Tryz.func127 (Eq.mp (by kernel_rfl) h)
def ji (s1 : Option Addr) (b2 : Slc) (w : World) (K : Value -> World -> Prop) : Prop :=
  aA w (.cells ⟨[(.pointer s1)]⟩ 104) fun r3 w4 =>
  aA w4 (.cells ⟨[(.int .i64 0)]⟩ 3) fun r5 w6 =>
  aA w6 (.cells ⟨[.nilIface]⟩ 42) fun r7 w8 =>
  ∃ J9 : World -> Prop,
  (
  BIf (decide ((b2.l : Int) = (0 : Int))) (
  ∃ v10, w8.drew.cell? ⟨aH, 0, none⟩ = some v10 /\
  aw w8.drew ⟨r5, 0, none⟩ 1 /\ ∀ w11, w11 = w8.drew.setCell ⟨r5, 0, none⟩ (.int .i64 0) ->
  (∃ v12, w11.cell? ⟨aH, 0, none⟩ = some v12 /\
  v12 = v10) /\
  oneK v10 (
  oneK v10 (
  aw w11 ⟨r7, 0, none⟩ 1 /\ ∀ w13, w13 = w11.setCell ⟨r7, 0, none⟩ v10 ->
  ∃ n14, w13.cell? ⟨r5, 0, none⟩ = some (.int .i64 n14) /\
  ∃ v15, w13.cell? ⟨r7, 0, none⟩ = some v15 /\
  K (.tuple ⟨[(.int .i64 n14), v15]⟩) w13))) (
  BIf (decide ((3968 : Int) < (b2.l : Int))) (
  ∃ v16, w8.drew.cell? ⟨aH, 0, none⟩ = some v16 /\
  aw w8.drew ⟨r5, 0, none⟩ 1 /\ ∀ w17, w17 = w8.drew.setCell ⟨r5, 0, none⟩ (.int .i64 0) ->
  (∃ v18, w17.cell? ⟨aH, 0, none⟩ = some v18 /\
  v18 = v16) /\
  oneK v16 (
  oneK v16 (
  aw w17 ⟨r7, 0, none⟩ 1 /\ ∀ w19, w19 = w17.setCell ⟨r7, 0, none⟩ v16 ->
  ∃ n20, w19.cell? ⟨r5, 0, none⟩ = some (.int .i64 n20) /\
  ∃ v21, w19.cell? ⟨r7, 0, none⟩ = some v21 /\
  K (.tuple ⟨[(.int .i64 n20), v21]⟩) w19))) (
  J9 w8))) /\ (
  ∀ w22 : World, J9 w22 -> ∀ _ _ _ _ _ _ _ _ _ : Value,
  ∃ p32 : Option Addr, w22.cell? ⟨r3, 0, none⟩ = some (.pointer p32) /\
  needSome p32 fun a33 =>
  ∃ s34, w22.cell? (a33.add 1) = some (Slc.v s34) /\
  ∃ J35 : World -> Prop,
  (
  BIf (decide ((s34.l : Int) = (0 : Int))) (
  ∃ p36 : Option Addr, w22.drew.cell? ⟨r3, 0, none⟩ = some (.pointer p36) /\
  Calls Tryz.prog dT ⟨[(.pointer p36)]⟩ w22.drew fun e37 w38 =>
  ∃ e39, e37 = .returned e39 /\
  isI e39 /\
  BIf (!isNilI e39) (
  aw w38 ⟨r5, 0, none⟩ 1 /\ ∀ w40, w40 = w38.setCell ⟨r5, 0, none⟩ (.int .i64 0) ->
  oneK e39 (
  oneK e39 (
  aw w40 ⟨r7, 0, none⟩ 1 /\ ∀ w41, w41 = w40.setCell ⟨r7, 0, none⟩ e39 ->
  ∃ n42, w41.cell? ⟨r5, 0, none⟩ = some (.int .i64 n42) /\
  ∃ v43, w41.cell? ⟨r7, 0, none⟩ = some v43 /\
  K (.tuple ⟨[(.int .i64 n42), v43]⟩) w41))) (
  J35 w38)) (
  ∃ p44 : Option Addr, w22.drew.cell? ⟨r3, 0, none⟩ = some (.pointer p44) /\
  needSome p44 fun a45 =>
  ∃ s46, w22.drew.cell? (a45.add 1) = some (Slc.v s46) /\
  inR .i64 ((s34.l : Int) - (1 : Int)) /\
  needSome s46.p fun a47 =>
  0 <= ((s34.l : Int) - (1 : Int)) /\ ((s34.l : Int) - (1 : Int)) < (s46.l : Int) /\
  ∃ p48 : Option Addr, w22.drew.cell? (Addr.add a47 ((Int.toNat ((s34.l : Int) - (1 : Int))) * 1)) = some (.pointer p48) /\
  needSome p48 fun a49 =>
  ∃ n50, w22.drew.cell? (a49.add 3) = some (.int .i64 n50) /\
  inR .i64 (n50 + 1) /\
  Calls Tryz.prog iu ⟨[(.int .i64 (b2.l : Int))]⟩ w22.drew fun e51 w52 =>
  ∃ n53, e51 = .returned (.int .i64 n53) /\
  (ckIx .i64 (w52.cell? (a49.add 3)) n50) /\
  (∃ p55 : Option Addr, w52.cell? (Addr.add a47 ((Int.toNat ((s34.l : Int) - (1 : Int))) * 1)) = some (.pointer p55) /\
  (Value.pointer p55) = (Value.pointer p48)) /\
  (ckSx (w52.cell? (a45.add 1)) s46) /\
  (ckPx (w52.cell? ⟨r3, 0, none⟩) p44) /\
  inR .i64 ((n50 + 1) + n53) /\
  BIf (decide ((64 : Int) < ((n50 + 1) + n53))) (
  ∃ p58 : Option Addr, w52.cell? ⟨r3, 0, none⟩ = some (.pointer p58) /\
  Calls Tryz.prog dT ⟨[(.pointer p58)]⟩ w52 fun e59 w60 =>
  ∃ e61, e59 = .returned e61 /\
  isI e61 /\
  BIf (!isNilI e61) (
  aw w60 ⟨r5, 0, none⟩ 1 /\ ∀ w62, w62 = w60.setCell ⟨r5, 0, none⟩ (.int .i64 0) ->
  oneK e61 (
  oneK e61 (
  aw w62 ⟨r7, 0, none⟩ 1 /\ ∀ w63, w63 = w62.setCell ⟨r7, 0, none⟩ e61 ->
  ∃ n64, w63.cell? ⟨r5, 0, none⟩ = some (.int .i64 n64) /\
  ∃ v65, w63.cell? ⟨r7, 0, none⟩ = some v65 /\
  K (.tuple ⟨[(.int .i64 n64), v65]⟩) w63))) (
  J35 w60)) (
  J35 w52))) /\ (
  ∀ w66 : World, J35 w66 -> ∀ _ _ _ _ _ _ _ _ _ _ _ _ _ _ _ _ _ _ _ _ _ _ _ _ _ _ _ : Value,
  ∃ p94 : Option Addr, w66.drew.cell? ⟨r3, 0, none⟩ = some (.pointer p94) /\
  needSome p94 fun a95 =>
  ∃ s96, w66.drew.cell? (a95.add 1) = some (Slc.v s96) /\
  ∃ p97 : Option Addr, w66.drew.cell? ⟨r3, 0, none⟩ = some (.pointer p97) /\
  needSome p97 fun a98 =>
  ∃ s99, w66.drew.cell? (a98.add 1) = some (Slc.v s99) /\
  inR .i64 ((s99.l : Int) - (1 : Int)) /\
  needSome s96.p fun a100 =>
  0 <= ((s99.l : Int) - (1 : Int)) /\ ((s99.l : Int) - (1 : Int)) < (s96.l : Int) /\
  ∃ p101 : Option Addr, w66.drew.cell? (Addr.add a100 ((Int.toNat ((s99.l : Int) - (1 : Int))) * 1)) = some (.pointer p101) /\
  aA w66.drew (.cells ⟨[(.pointer none)]⟩ 177) fun r102 w103 =>
  (∃ p104 : Option Addr, w103.cell? (Addr.add a100 ((Int.toNat ((s99.l : Int) - (1 : Int))) * 1)) = some (.pointer p104) /\
  (Value.pointer p104) = (Value.pointer p101)) /\
  (ckSx (w103.cell? (a98.add 1)) s99) /\
  (ckPx (w103.cell? ⟨r3, 0, none⟩) p97) /\
  (ckSx (w103.cell? (a95.add 1)) s96) /\
  (ckPx (w103.cell? ⟨r3, 0, none⟩) p94) /\
  aw w103 ⟨r102, 0, none⟩ 1 /\ ∀ w109, w109 = w103.setCell ⟨r102, 0, none⟩ (.pointer p101) ->
  ∃ p110 : Option Addr, w109.cell? ⟨r102, 0, none⟩ = some (.pointer p110) /\
  needSome p110 fun a111 =>
  ∃ n112, w109.cell? (a111.add 3) = some (.int .i64 n112) /\
  inR .i64 (n112 + 1) /\
  aA w109 (.cells ⟨[(.int .i64 0)]⟩ 3) fun r113 w114 =>
  aw w114 ⟨r113, 0, none⟩ 1 /\ ∀ w115, w115 = w114.setCell ⟨r113, 0, none⟩ (.int .i64 (n112 + 1)) ->
  Calls Tryz.prog gr ⟨[b2.v, (.int .i64 64)]⟩ w115 fun e116 w117 =>
  ∃ e118, e116 = .returned e118 /\
  ∃ (gf145 : Nat) (first146 cap147 : List Value), e118 = .func (.func gf145) ⟨first146⟩ ⟨cap147⟩ /\ DD gf145 = true /\
  ∀ (D119 lr120 : Nat) (rc121 : Rec) (w122 : World), D119 = (World.heap w117).size -> lr120 = D119 + 1 -> w122 = World.alloc (World.alloc w117 (.deferred (some []))) (.loop (rc121 .ready none)) ->
  (∀ s125 : Slc, ∀ (w123 : World) (R124 : Ending -> World -> Prop), (World.heap w123)[lr120]? = some (.loop (rc121 .ready none)) -> (
  (World.heap w123)[lr120]? = some (.loop (rc121 .ready none)) /\ ∀ w126, w126 = World.putObj w123 lr120 (.loop (rc121 .busy none)) ->
  0 <= (64 : Int) /\ (64 : Int) <= (64 : Int) /\ (64 : Int) <= 2 ^ 30 /\
  aA w126 (.cells ⟨bI 64 [(.int .u8 0)]⟩ 5) fun r127 w128 =>
  copyS 1 w128 (⟨(some ⟨r127, 0, none⟩), 64, 64⟩ : Slc) (.slc s125) fun n129 w130 =>
  ∃ p131 : Option Addr, w130.drew.cell? ⟨r3, 0, none⟩ = some (.pointer p131) /\
  ∃ p132 : Option Addr, w130.drew.cell? ⟨r102, 0, none⟩ = some (.pointer p132) /\
  needSome p132 fun a133 =>
  ∃ n134, w130.drew.cell? a133 = some (.int .i64 n134) /\
  ∃ n135, w130.drew.cell? ⟨r113, 0, none⟩ = some (.int .i64 n135) /\
  Calls Tryz.prog cA ⟨[(.pointer p131), (.int .i64 n134), (.int .i64 n135), (Slc.v (⟨(some ⟨r127, 0, none⟩), 64, 64⟩ : Slc))]⟩ w130.drew fun e136 w137 =>
  ∃ e138, e136 = .returned e138 /\
  isI e138 /\
  BIf (!isNilI e138) (
  aw w137 ⟨r5, 0, none⟩ 1 /\ ∀ w139, w139 = w137.setCell ⟨r5, 0, none⟩ (.int .i64 0) ->
  oneK e138 (
  oneK e138 (
  aw w139 ⟨r7, 0, none⟩ 1 /\ ∀ w140, w140 = w139.setCell ⟨r7, 0, none⟩ e138 ->
  (World.heap w140)[lr120]? = some (.loop (rc121 .busy none)) /\ ∀ w141, w141 = World.putObj w140 lr120 (.loop (rc121 .done (some Code.ret))) -> R124 (.returned (.bool false)) w141))) (
  ∃ n142, w137.cell? ⟨r113, 0, none⟩ = some (.int .i64 n142) /\
  inR .i64 (n142 + 1) /\
  aw w137 ⟨r113, 0, none⟩ 1 /\ ∀ w143, w143 = w137.setCell ⟨r113, 0, none⟩ (.int .i64 (n142 + 1)) ->
  (World.heap w143)[lr120]? = some (.loop (rc121 .busy none)) /\ ∀ w144, w144 = World.putObj w143 lr120 (.loop (rc121 .ready none)) -> R124 (.returned (.bool true)) w144)) -> jF Tryz.prog lr120 ⟨[s125.v]⟩ w123 R124) ->
  Calls Tryz.prog gf145 ⟨first146 ++ .func (.yield lr120) #[] #[] :: cap147⟩ w122 fun e148 w149 => (∃ v, e148 = .returned v) /\ (
  ((World.heap w149)[lr120]? = some (.loop (rc121 .done (some Code.ret))) /\ ∀ w150, w150 = World.putObj w149 lr120 (.loop (rc121 .exhausted (some Code.ret))) ->
  (World.heap w150)[D119]? = some (.deferred (some [])) /\ ∀ w151, w151 = World.putObj w150 D119 (.deferred none) ->
  ∃ n152, w151.cell? ⟨r5, 0, none⟩ = some (.int .i64 n152) /\
  ∃ v153, w151.cell? ⟨r7, 0, none⟩ = some v153 /\
  K (.tuple ⟨[(.int .i64 n152), v153]⟩) w151) \/
  ((World.heap w149)[lr120]? = some (.loop (rc121 .ready none)) /\ ∀ w154, w154 = World.putObj w149 lr120 (.loop (rc121 .exhausted none)) ->
  ∃ J155 : World -> Prop,
  (
  ∃ n156, w154.cell? ⟨r113, 0, none⟩ = some (.int .i64 n156) /\
  BIf (decide (n156 < 64)) (
  ∃ p157 : Option Addr, w154.drew.cell? ⟨r3, 0, none⟩ = some (.pointer p157) /\
  ∃ p158 : Option Addr, w154.drew.cell? ⟨r102, 0, none⟩ = some (.pointer p158) /\
  needSome p158 fun a159 =>
  ∃ n160, w154.drew.cell? a159 = some (.int .i64 n160) /\
  ∃ n161, w154.drew.cell? ⟨r113, 0, none⟩ = some (.int .i64 n161) /\
  0 <= (64 : Int) /\ (64 : Int) <= (64 : Int) /\ (64 : Int) <= 2 ^ 30 /\
  aA w154.drew (.cells ⟨bI 64 [(.int .u8 0)]⟩ 5) fun r162 w163 =>
  (ckIx .i64 (w163.cell? ⟨r113, 0, none⟩) n161) /\
  (ckIx .i64 (w163.cell? a159) n160) /\
  (ckPx (w163.cell? ⟨r102, 0, none⟩) p158) /\
  (ckPx (w163.cell? ⟨r3, 0, none⟩) p157) /\
  Calls Tryz.prog cA ⟨[(.pointer p157), (.int .i64 n160), (.int .i64 n161), (Slc.v (⟨(some ⟨r162, 0, none⟩), 64, 64⟩ : Slc))]⟩ w163 fun e168 w169 =>
  ∃ e170, e168 = .returned e170 /\
  isI e170 /\
  BIf (!isNilI e170) (
  aw w169 ⟨r5, 0, none⟩ 1 /\ ∀ w171, w171 = w169.setCell ⟨r5, 0, none⟩ (.int .i64 0) ->
  oneK e170 (
  oneK e170 (
  aw w171 ⟨r7, 0, none⟩ 1 /\ ∀ w172, w172 = w171.setCell ⟨r7, 0, none⟩ e170 ->
  (World.heap w172)[D119]? = some (.deferred (some [])) /\ ∀ w173, w173 = World.putObj w172 D119 (.deferred none) ->
  ∃ n174, w173.cell? ⟨r5, 0, none⟩ = some (.int .i64 n174) /\
  ∃ v175, w173.cell? ⟨r7, 0, none⟩ = some v175 /\
  K (.tuple ⟨[(.int .i64 n174), v175]⟩) w173))) (
  J155 w169)) (
  J155 w154)) /\ (
  ∀ w176 : World, J155 w176 -> ∀ _ _ _ _ _ _ _ _ _ _ _ _ _ _ : Value,
  ∃ p191 : Option Addr, w176.cell? ⟨r3, 0, none⟩ = some (.pointer p191) /\
  needSome p191 fun a192 =>
  ∃ p193 : Option Addr, w176.cell? a192 = some (.pointer p193) /\
  Calls Tryz.prog b7 ⟨[(.pointer p193)]⟩ w176 fun e194 w195 =>
  ∃ e196, e194 = .returned e196 /\
  isI e196 /\
  BIf (!isNilI e196) (
  aw w195 ⟨r5, 0, none⟩ 1 /\ ∀ w197, w197 = w195.setCell ⟨r5, 0, none⟩ (.int .i64 0) ->
  oneK e196 (
  oneK e196 (
  aw w197 ⟨r7, 0, none⟩ 1 /\ ∀ w198, w198 = w197.setCell ⟨r7, 0, none⟩ e196 ->
  (World.heap w198)[D119]? = some (.deferred (some [])) /\ ∀ w199, w199 = World.putObj w198 D119 (.deferred none) ->
  ∃ n200, w199.cell? ⟨r5, 0, none⟩ = some (.int .i64 n200) /\
  ∃ v201, w199.cell? ⟨r7, 0, none⟩ = some v201 /\
  K (.tuple ⟨[(.int .i64 n200), v201]⟩) w199))) (
  ∃ p202 : Option Addr, w195.drew.cell? ⟨r3, 0, none⟩ = some (.pointer p202) /\
  ∃ p203 : Option Addr, w195.drew.cell? ⟨r102, 0, none⟩ = some (.pointer p203) /\
  needSome p203 fun a204 =>
  ∃ n205, w195.drew.cell? a204 = some (.int .i64 n205) /\
  ∃ p206 : Option Addr, w195.drew.cell? ⟨r102, 0, none⟩ = some (.pointer p206) /\
  needSome p206 fun a207 =>
  ∃ n208, w195.drew.cell? (a207.add 3) = some (.int .i64 n208) /\
  Calls Tryz.prog jf ⟨[(.int .i64 (b2.l : Int)), (.int .u8 1)]⟩ w195.drew fun e209 w210 =>
  ∃ s211, e209 = .returned (Slc.v s211) /\
  (ckIx .i64 (w210.cell? (a207.add 3)) n208) /\
  (ckPx (w210.cell? ⟨r102, 0, none⟩) p206) /\
  (ckIx .i64 (w210.cell? a204) n205) /\
  (ckPx (w210.cell? ⟨r102, 0, none⟩) p203) /\
  (ckPx (w210.cell? ⟨r3, 0, none⟩) p202) /\
  Calls Tryz.prog dU ⟨[(.pointer p202), (.int .i64 n205), (.int .i64 n208), s211.v]⟩ w210 fun e217 w218 =>
  ∃ e219, e217 = .returned e219 /\
  isI e219 /\
  BIf (!isNilI e219) (
  aw w218 ⟨r5, 0, none⟩ 1 /\ ∀ w220, w220 = w218.setCell ⟨r5, 0, none⟩ (.int .i64 0) ->
  oneK e219 (
  oneK e219 (
  aw w220 ⟨r7, 0, none⟩ 1 /\ ∀ w221, w221 = w220.setCell ⟨r7, 0, none⟩ e219 ->
  (World.heap w221)[D119]? = some (.deferred (some [])) /\ ∀ w222, w222 = World.putObj w221 D119 (.deferred none) ->
  ∃ n223, w222.cell? ⟨r5, 0, none⟩ = some (.int .i64 n223) /\
  ∃ v224, w222.cell? ⟨r7, 0, none⟩ = some v224 /\
  K (.tuple ⟨[(.int .i64 n223), v224]⟩) w222))) (
  ∃ p225 : Option Addr, w218.drew.cell? ⟨r102, 0, none⟩ = some (.pointer p225) /\
  ∃ p226 : Option Addr, w218.drew.cell? ⟨r102, 0, none⟩ = some (.pointer p226) /\
  ∃ p227 : Option Addr, w218.drew.cell? ⟨r102, 0, none⟩ = some (.pointer p227) /\
  needSome p227 fun a228 =>
  ∃ s229, w218.drew.cell? (a228.add 2) = some (Slc.v s229) /\
  ∃ n230, w218.drew.cell? ⟨r113, 0, none⟩ = some (.int .i64 n230) /\
  Calls Tryz.prog aQ ⟨[b2.v]⟩ w218.drew fun e231 w232 =>
  ∃ s233, e231 = .returned (Slc.v s233) /\
  (ckIx .i64 (w232.cell? ⟨r113, 0, none⟩) n230) /\
  (ckSx (w232.cell? (a228.add 2)) s229) /\
  (ckPx (w232.cell? ⟨r102, 0, none⟩) p227) /\
  (ckPx (w232.cell? ⟨r102, 0, none⟩) p226) /\
  (ckPx (w232.cell? ⟨r102, 0, none⟩) p225) /\
  aA w232 (.cells ⟨[s233.v]⟩ 45) fun r239 w240 =>
  (ckIx .i64 (w240.cell? ⟨r113, 0, none⟩) n230) /\
  (ckSx (w240.cell? (a228.add 2)) s229) /\
  (ckPx (w240.cell? ⟨r102, 0, none⟩) p227) /\
  (ckPx (w240.cell? ⟨r102, 0, none⟩) p226) /\
  (ckPx (w240.cell? ⟨r102, 0, none⟩) p225) /\
  ak 1 45 [(Slc.v ⟨none, 0, 0⟩)] w240 s229 (.slc (⟨(some ⟨r239, 0, none⟩), 1, 1⟩ : Slc)) fun s246 w247 =>
  (ckIx .i64 (w247.cell? ⟨r113, 0, none⟩) n230) /\
  (ckPx (w247.cell? ⟨r102, 0, none⟩) p226) /\
  (ckPx (w247.cell? ⟨r102, 0, none⟩) p225) /\
  needSome p225 fun a251 =>
  aw w247 (a251.add 2) 1 /\ ∀ w252, w252 = w247.setCell (a251.add 2) (Slc.v s246) ->
  (ckIx .i64 (w252.cell? ⟨r113, 0, none⟩) n230) /\
  (ckPx (w252.cell? ⟨r102, 0, none⟩) p226) /\
  needSome p226 fun a255 =>
  aw w252 (a255.add 3) 1 /\ ∀ w256, w256 = w252.setCell (a255.add 3) (.int .i64 n230) ->
  ∃ p257 : Option Addr, w256.cell? ⟨r102, 0, none⟩ = some (.pointer p257) /\
  needSome p257 fun a258 =>
  ∃ n259, w256.cell? (a258.add 1) = some (.int .i64 n259) /\
  aw w256 ⟨r5, 0, none⟩ 1 /\ ∀ w260, w260 = w256.setCell ⟨r5, 0, none⟩ (.int .i64 n259) ->
  aw w260 ⟨r7, 0, none⟩ 1 /\ ∀ w261, w261 = w260.setCell ⟨r7, 0, none⟩ .nilIface ->
  (World.heap w261)[D119]? = some (.deferred (some [])) /\ ∀ w262, w262 = World.putObj w261 D119 (.deferred none) ->
  ∃ n263, w262.cell? ⟨r5, 0, none⟩ = some (.int .i64 n263) /\
  ∃ v264, w262.cell? ⟨r7, 0, none⟩ = some v264 /\
  K (.tuple ⟨[(.int .i64 n263), v264]⟩) w262)))))))
theorem qq (s1 : Option Addr) (b2 : Slc) {w : World} {R : Ending -> World -> Prop} (h : ji s1 b2 w fun v w' => R (.returned v) w') : Calls Tryz.prog jU ⟨[(.pointer s1), b2.v]⟩ w R :=
  rB (ann := (.two .none (.cut [] (List.range' 16 9) .none (.two .none (.cut [] ([7] ++ List.range' 30 26) .none (.two .none (.two .none (.two (.two .none (.one (.range [.one Sh.slc] [.ret] .none .none))) (.cut [] ([13] ++ List.range' 93 13) .none .none))))))))) ag mixed Tryz.func89 (Eq.mp (by kernel_rfl) h)
end Go.D

