/-
  WHAT IS PROVED: verification conditions of functions of this program, each with its soundness. No further conditions.
-/
import Derived.Test.YtnbddjghhmbmcaaGreatDoorBase
set_option linter.unusedSimpArgs false
set_option maxRecDepth 100000
set_option linter.unusedVariables false
namespace Go.D
open Go Go.Proofs
def lM (places1 : Int) (w : World) (K : Value -> World -> Prop) : Prop :=
  aA w (.cells ⟨[(.int .i64 places1), (Slc.v ⟨none, 0, 0⟩)]⟩ 142) fun r2 w3 =>
  aA w3 (.cells ⟨[(.pointer (some ⟨r2, 0, none⟩)), (Slc.v ⟨none, 0, 0⟩), (Slc.v ⟨none, 0, 0⟩), (Slc.v ⟨none, 0, 0⟩), (.int .i64 0), (.int .i64 0), (.int .i64 0)]⟩ 128) fun r4 w5 =>
  K (.pointer (some ⟨r4, 0, none⟩)) w5
theorem pT (places1 : Int) {w : World} {R : Ending -> World -> Prop} (h : lM places1 w fun v w' => R (.returned v) w') : Calls Tryz.prog fX ⟨[(.int .i64 places1)]⟩ w R :=
  ab (ann := .none) ag mixed Tryz.func46 (Eq.mp (by kernel_rfl) h)
def ia (u1 : Option Addr) (at2 : Int) (w : World) (K : Value -> World -> Prop) : Prop :=
  needSome u1 fun a3 =>
  ∃ s4, w.cell? (a3.add 1) = some (Slc.v s4) /\
  ∃ (I5 : (Int) -> World -> Prop) (mu6 : (Int) -> World -> Nat), I5 ((0 : Int)) w /\ (
  ∀ i7 : Int, ∀ w8 : World, I5 i7 w8 -> ∀ _ _ _ _ _ _ _ _ _ _ _ _ _ _ _ _ _ _ _ _ : Value,
  BIf (decide (i7 < (s4.l : Int))) (
  needSome s4.p fun a29 =>
  0 <= i7 /\ i7 < (s4.l : Int) /\
  ∃ n30, w8.cell? (Addr.add a29 ((Int.toNat i7) * 1)) = some (.int .i64 n30) /\
  BIf (decide (n30 = at2)) (
  needSome u1 fun a31 =>
  ∃ n32, w8.cell? (a31.add 4) = some (.int .i64 n32) /\
  BIf (decide (n32 <= at2)) (
  K (.int .i64 i7) w8) (
  inR .i64 (i7 + 1) /\
  (I5 ((i7 + 1)) w8 /\ mu6 ((i7 + 1)) w8 < mu6 i7 w8))) (
  inR .i64 (i7 + 1) /\
  (I5 ((i7 + 1)) w8 /\ mu6 ((i7 + 1)) w8 < mu6 i7 w8))) (
  K (.int .i64 (-1 : Int)) w8))
theorem kZ (u1 : Option Addr) (at2 : Int) {w : World} {R : Ending -> World -> Prop} (h : ia u1 at2 w fun v w' => R (.returned v) w') : Calls Tryz.prog cg ⟨[(.pointer u1), (.int .i64 at2)]⟩ w R :=
  ab (ann := (.two .none (.two (.two .none (.one (.loop [(12, (Sh.int .i64))] ([4, 5, 6] ++ List.range' 13 17) .none))) .none))) ag mixed Tryz.func95 (Eq.mp (by kernel_rfl) h)
def iT (u1 : Option Addr) (at2 : Int) (w : World) (K : Value -> World -> Prop) : Prop :=
  Calls Tryz.prog cg ⟨[(.pointer u1), (.int .i64 at2)]⟩ w fun e3 w4 =>
  ∃ n5, e3 = .returned (.int .i64 n5) /\
  K (.bool (decide (0 <= n5))) w4
theorem lN (u1 : Option Addr) (at2 : Int) {w : World} {R : Ending -> World -> Prop} (h : iT u1 at2 w fun v w' => R (.returned v) w') : Calls Tryz.prog dV ⟨[(.pointer u1), (.int .i64 at2)]⟩ w R :=
  ab (ann := .none) ag mixed Tryz.func134 (Eq.mp (by kernel_rfl) h)
def gS (u1 : Option Addr) (epoch2 : Int) (at3 : Int) (most4 : Int) (w : World) (K : Value -> World -> Prop) : Prop :=
  needSome u1 fun a5 =>
  ∃ n6, w.cell? (a5.add 5) = some (.int .i64 n6) /\
  BIf (decide (epoch2 < n6)) (
  K (.int .i64 8) w) (
  BIf (decide (1073741824 < epoch2)) (
  K (.int .i64 8) w) (
  BIf (decide (at3 < 0)) (
  K (.int .i64 1) w) (
  BIf (decide (most4 < at3)) (
  K (.int .i64 1) w) (
  K (.int .i64 0) w))))
theorem km (u1 : Option Addr) (epoch2 : Int) (at3 : Int) (most4 : Int) {w : World} {R : Ending -> World -> Prop} (h : gS u1 epoch2 at3 most4 w fun v w' => R (.returned v) w') : Calls Tryz.prog br ⟨[(.pointer u1), (.int .i64 epoch2), (.int .i64 at3), (.int .i64 most4)]⟩ w R :=
  ab (ann := .none) ag mixed Tryz.func94 (Eq.mp (by kernel_rfl) h)
def lO (parts1 : Slc) (w : World) (K : Value -> World -> Prop) : Prop :=
  aA w (.cells ⟨[]⟩ 5) fun r2 w3 =>
  ∃ (I4 : (Slc) -> (Int) -> World -> Prop) (mu5 : (Slc) -> (Int) -> World -> Nat), I4 ((⟨(some ⟨r2, 0, none⟩), 0, 0⟩ : Slc)) ((0 : Int)) w3 /\ (
  ∀ out6 : Slc, ∀ i7 : Int, ∀ w8 : World, I4 out6 i7 w8 -> ∀ _ _ _ _ _ _ _ _ : Value,
  BIf (decide (i7 < (parts1.l : Int))) (
  needSome parts1.p fun a17 =>
  0 <= i7 /\ i7 < (parts1.l : Int) /\
  ∃ s18, w8.cell? (Addr.add a17 ((Int.toNat i7) * 1)) = some (Slc.v s18) /\
  ak 1 5 [(.int .u8 0)] w8 out6 (.slc s18) fun s19 w20 =>
  inR .i64 (i7 + 1) /\
  (I4 (s19) ((i7 + 1)) w20 /\ mu5 (s19) ((i7 + 1)) w20 < mu5 out6 i7 w8)) (
  K out6.v w8))
theorem pU (parts1 : Slc) {w : World} {R : Ending -> World -> Prop} (h : lO parts1 w fun v w' => R (.returned v) w') : Calls Tryz.prog cK ⟨[parts1.v]⟩ w R :=
  ab (ann := (.two .none (.two .none (.two (.two .none (.one (.loop [(3, Sh.slc), (9, (Sh.int .i64))] [5, 10, 11, 12, 13, 14, 15, 16] .none))) .none)))) ag mixed Tryz.func75 (Eq.mp (by kernel_rfl) h)
def eo (u1 : Option Addr) (epoch2 : Int) (at3 : Int) (b4 : Slc) (w : World) (K : Value -> World -> Prop) : Prop :=
  Calls Tryz.prog br ⟨[(.pointer u1), (.int .i64 epoch2), (.int .i64 at3), (.int .i64 4095)]⟩ w fun e5 w6 =>
  ∃ n7, e5 = .returned (.int .i64 n7) /\
  BIf (!decide (n7 = 0)) (
  K (.int .i64 n7) w6) (
  ∃ J8 : World -> Prop,
  (
  BIf (decide ((b4.l : Int) < (1 : Int))) (
  K (.int .i64 3) w6) (
  BIf (decide ((2048 : Int) < (b4.l : Int))) (
  K (.int .i64 3) w6) (
  J8 w6))) /\ (
  ∀ w9 : World, J8 w9 -> ∀ _ _ _ _ _ _ _ _ _ : Value,
  needSome u1 fun a19 =>
  ∃ n20, w9.cell? (a19.add 4) = some (.int .i64 n20) /\
  BIf (decide (at3 < n20)) (
  K (.int .i64 11) w9) (
  Calls Tryz.prog dV ⟨[(.pointer u1), (.int .i64 at3)]⟩ w9 fun e21 w22 =>
  ∃ b23, e21 = .returned (.bool b23) /\
  BIf b23 (
  K (.int .i64 9) w22) (
  needSome u1 fun a24 =>
  ∃ p25 : Option Addr, w22.drew.cell? a24 = some (.pointer p25) /\
  ∃ t26 : List UInt8, au w22.drew b4 t26 /\
  Calls Tryz.prog aL ⟨[(.int .i64 1)]⟩ w22.drew fun e27 w28 =>
  ∃ s29, e27 = .returned (Slc.v s29) /\
  (ckBx w28 b4 t26) /\
  (ckPx (w28.cell? a24) p25) /\
  Calls Tryz.prog aL ⟨[(.int .i64 at3)]⟩ w28 fun e32 w33 =>
  ∃ s34, e32 = .returned (Slc.v s34) /\
  (ckBx w33 b4 t26) /\
  (ckPx (w33.cell? a24) p25) /\
  Calls Tryz.prog fK ⟨[(dA t26)]⟩ w33 fun e37 w38 =>
  ∃ s39, e37 = .returned (Slc.v s39) /\
  (ckPx (w38.cell? a24) p25) /\
  aA w38 (.cells ⟨[s29.v, s34.v, s39.v]⟩ 45) fun r41 w42 =>
  (ckPx (w42.cell? a24) p25) /\
  Calls Tryz.prog cK ⟨[(Slc.v (⟨(some ⟨r41, 0, none⟩), 3, 3⟩ : Slc))]⟩ w42 fun e44 w45 =>
  ∃ s46, e44 = .returned (Slc.v s46) /\
  (ckPx (w45.cell? a24) p25) /\
  Calls Tryz.prog aV ⟨[(.pointer p25), s46.v]⟩ w45 fun e48 w49 =>
  ∃ n50 : Int, ∃ n51, e48 = .returned (.tuple ⟨[(.int .i64 n50), (.int .i64 n51)]⟩) /\
  BIf (!decide (n51 = 0)) (
  K (.int .i64 n51) w49) (
  needSome u1 fun a52 =>
  ∃ s53, w49.drew.cell? (a52.add 1) = some (Slc.v s53) /\
  needSome u1 fun a54 =>
  ∃ s55, w49.drew.cell? (a54.add 2) = some (Slc.v s55) /\
  needSome u1 fun a56 =>
  ∃ s57, w49.drew.cell? (a56.add 3) = some (Slc.v s57) /\
  (
  aA w49.drew (.cells ⟨[(.int .i64 at3)]⟩ 3) fun r58 w59 =>
  (ckSx (w59.cell? (a56.add 3)) s57) /\
  (ckSx (w59.cell? (a54.add 2)) s55) /\
  (ckSx (w59.cell? (a52.add 1)) s53) /\
  (
  ak 1 3 [(.int .i64 0)] w59 s53 (.slc (⟨(some ⟨r58, 0, none⟩), 1, 1⟩ : Slc)) fun s63 w64 =>
  (ckSx (w64.cell? (a56.add 3)) s57) /\
  (ckSx (w64.cell? (a54.add 2)) s55) /\
  (
  aA w64 (.cells ⟨[]⟩ 5) fun r67 w68 =>
  (ckSx (w68.cell? (a56.add 3)) s57) /\
  (ckSx (w68.cell? (a54.add 2)) s55) /\
  (
  ak 1 5 [(.int .u8 0)] w68 (⟨(some ⟨r67, 0, none⟩), 0, 0⟩ : Slc) (.slc b4) fun s71 w72 =>
  (ckSx (w72.cell? (a56.add 3)) s57) /\
  (ckSx (w72.cell? (a54.add 2)) s55) /\
  (
  aA w72 (.cells ⟨[(Slc.v s71)]⟩ 45) fun r75 w76 =>
  (ckSx (w76.cell? (a56.add 3)) s57) /\
  (ckSx (w76.cell? (a54.add 2)) s55) /\
  (
  ak 1 45 [(Slc.v ⟨none, 0, 0⟩)] w76 s55 (.slc (⟨(some ⟨r75, 0, none⟩), 1, 1⟩ : Slc)) fun s79 w80 =>
  (ckSx (w80.cell? (a56.add 3)) s57) /\
  aA w80 (.cells ⟨[(.int .i64 n50)]⟩ 3) fun r82 w83 =>
  (ckSx (w83.cell? (a56.add 3)) s57) /\
  ak 1 3 [(.int .i64 0)] w83 s57 (.slc (⟨(some ⟨r82, 0, none⟩), 1, 1⟩ : Slc)) fun s85 w86 =>
  needSome u1 fun a87 =>
  aw w86 (a87.add 1) 1 /\ ∀ w88, w88 = w86.setCell (a87.add 1) (Slc.v s63) ->
  needSome u1 fun a89 =>
  aw w88 (a89.add 2) 1 /\ ∀ w90, w90 = w88.setCell (a89.add 2) (Slc.v s79) ->
  needSome u1 fun a91 =>
  aw w90 (a91.add 3) 1 /\ ∀ w92, w92 = w90.setCell (a91.add 3) (Slc.v s85) ->
  inR .i64 (at3 + 1) /\
  needSome u1 fun a93 =>
  ∃ n94, w92.cell? (a93.add 6) = some (.int .i64 n94) /\
  BIf (decide (n94 < (at3 + 1))) (
  inR .i64 (at3 + 1) /\
  needSome u1 fun a95 =>
  aw w92 (a95.add 6) 1 /\ ∀ w96, w96 = w92.setCell (a95.add 6) (.int .i64 (at3 + 1)) ->
  K (.int .i64 0) w96) (
  K (.int .i64 0) w92)) /\
  (
  aA w76 (.cells ⟨[(.int .i64 n50)]⟩ 3) fun r97 w98 =>
  (ckSx (w98.cell? (a56.add 3)) s57) /\
  (ckSx (w98.cell? (a54.add 2)) s55) /\
  ak 1 45 [(Slc.v ⟨none, 0, 0⟩)] w98 s55 (.slc (⟨(some ⟨r75, 0, none⟩), 1, 1⟩ : Slc)) fun s101 w102 =>
  (ckSx (w102.cell? (a56.add 3)) s57) /\
  ak 1 3 [(.int .i64 0)] w102 s57 (.slc (⟨(some ⟨r97, 0, none⟩), 1, 1⟩ : Slc)) fun s104 w105 =>
  needSome u1 fun a106 =>
  aw w105 (a106.add 1) 1 /\ ∀ w107, w107 = w105.setCell (a106.add 1) s63.v ->
  needSome u1 fun a108 =>
  aw w107 (a108.add 2) 1 /\ ∀ w109, w109 = w107.setCell (a108.add 2) (Slc.v s101) ->
  needSome u1 fun a110 =>
  aw w109 (a110.add 3) 1 /\ ∀ w111, w111 = w109.setCell (a110.add 3) (Slc.v s104) ->
  inR .i64 (at3 + 1) /\
  needSome u1 fun a112 =>
  ∃ n113, w111.cell? (a112.add 6) = some (.int .i64 n113) /\
  BIf (decide (n113 < (at3 + 1))) (
  inR .i64 (at3 + 1) /\
  needSome u1 fun a114 =>
  aw w111 (a114.add 6) 1 /\ ∀ w115, w115 = w111.setCell (a114.add 6) (.int .i64 (at3 + 1)) ->
  K (.int .i64 0) w115) (
  K (.int .i64 0) w111))) /\
  (
  aA w72 (.cells ⟨[(.int .i64 n50)]⟩ 3) fun r116 w117 =>
  (ckSx (w117.cell? (a56.add 3)) s57) /\
  (ckSx (w117.cell? (a54.add 2)) s55) /\
  aA w117 (.cells ⟨[s71.v]⟩ 45) fun r120 w121 =>
  (ckSx (w121.cell? (a56.add 3)) s57) /\
  (ckSx (w121.cell? (a54.add 2)) s55) /\
  ak 1 45 [(Slc.v ⟨none, 0, 0⟩)] w121 s55 (.slc (⟨(some ⟨r120, 0, none⟩), 1, 1⟩ : Slc)) fun s124 w125 =>
  (ckSx (w125.cell? (a56.add 3)) s57) /\
  ak 1 3 [(.int .i64 0)] w125 s57 (.slc (⟨(some ⟨r116, 0, none⟩), 1, 1⟩ : Slc)) fun s127 w128 =>
  needSome u1 fun a129 =>
  aw w128 (a129.add 1) 1 /\ ∀ w130, w130 = w128.setCell (a129.add 1) s63.v ->
  needSome u1 fun a131 =>
  aw w130 (a131.add 2) 1 /\ ∀ w132, w132 = w130.setCell (a131.add 2) (Slc.v s124) ->
  needSome u1 fun a133 =>
  aw w132 (a133.add 3) 1 /\ ∀ w134, w134 = w132.setCell (a133.add 3) (Slc.v s127) ->
  inR .i64 (at3 + 1) /\
  needSome u1 fun a135 =>
  ∃ n136, w134.cell? (a135.add 6) = some (.int .i64 n136) /\
  BIf (decide (n136 < (at3 + 1))) (
  inR .i64 (at3 + 1) /\
  needSome u1 fun a137 =>
  aw w134 (a137.add 6) 1 /\ ∀ w138, w138 = w134.setCell (a137.add 6) (.int .i64 (at3 + 1)) ->
  K (.int .i64 0) w138) (
  K (.int .i64 0) w134))) /\
  (
  aA w68 (.cells ⟨[(.int .i64 n50)]⟩ 3) fun r139 w140 =>
  (ckSx (w140.cell? (a56.add 3)) s57) /\
  (ckSx (w140.cell? (a54.add 2)) s55) /\
  ak 1 5 [(.int .u8 0)] w140 (⟨(some ⟨r67, 0, none⟩), 0, 0⟩ : Slc) (.slc b4) fun s143 w144 =>
  (ckSx (w144.cell? (a56.add 3)) s57) /\
  (ckSx (w144.cell? (a54.add 2)) s55) /\
  aA w144 (.cells ⟨[(Slc.v s143)]⟩ 45) fun r147 w148 =>
  (ckSx (w148.cell? (a56.add 3)) s57) /\
  (ckSx (w148.cell? (a54.add 2)) s55) /\
  ak 1 45 [(Slc.v ⟨none, 0, 0⟩)] w148 s55 (.slc (⟨(some ⟨r147, 0, none⟩), 1, 1⟩ : Slc)) fun s151 w152 =>
  (ckSx (w152.cell? (a56.add 3)) s57) /\
  ak 1 3 [(.int .i64 0)] w152 s57 (.slc (⟨(some ⟨r139, 0, none⟩), 1, 1⟩ : Slc)) fun s154 w155 =>
  needSome u1 fun a156 =>
  aw w155 (a156.add 1) 1 /\ ∀ w157, w157 = w155.setCell (a156.add 1) s63.v ->
  needSome u1 fun a158 =>
  aw w157 (a158.add 2) 1 /\ ∀ w159, w159 = w157.setCell (a158.add 2) (Slc.v s151) ->
  needSome u1 fun a160 =>
  aw w159 (a160.add 3) 1 /\ ∀ w161, w161 = w159.setCell (a160.add 3) (Slc.v s154) ->
  inR .i64 (at3 + 1) /\
  needSome u1 fun a162 =>
  ∃ n163, w161.cell? (a162.add 6) = some (.int .i64 n163) /\
  BIf (decide (n163 < (at3 + 1))) (
  inR .i64 (at3 + 1) /\
  needSome u1 fun a164 =>
  aw w161 (a164.add 6) 1 /\ ∀ w165, w165 = w161.setCell (a164.add 6) (.int .i64 (at3 + 1)) ->
  K (.int .i64 0) w165) (
  K (.int .i64 0) w161))) /\
  (
  aA w64 (.cells ⟨[(.int .i64 n50)]⟩ 3) fun r166 w167 =>
  (ckSx (w167.cell? (a56.add 3)) s57) /\
  (ckSx (w167.cell? (a54.add 2)) s55) /\
  aA w167 (.cells ⟨[]⟩ 5) fun r170 w171 =>
  (ckSx (w171.cell? (a56.add 3)) s57) /\
  (ckSx (w171.cell? (a54.add 2)) s55) /\
  ak 1 5 [(.int .u8 0)] w171 (⟨(some ⟨r170, 0, none⟩), 0, 0⟩ : Slc) (.slc b4) fun s174 w175 =>
  (ckSx (w175.cell? (a56.add 3)) s57) /\
  (ckSx (w175.cell? (a54.add 2)) s55) /\
  aA w175 (.cells ⟨[(Slc.v s174)]⟩ 45) fun r178 w179 =>
  (ckSx (w179.cell? (a56.add 3)) s57) /\
  (ckSx (w179.cell? (a54.add 2)) s55) /\
  ak 1 45 [(Slc.v ⟨none, 0, 0⟩)] w179 s55 (.slc (⟨(some ⟨r178, 0, none⟩), 1, 1⟩ : Slc)) fun s182 w183 =>
  (ckSx (w183.cell? (a56.add 3)) s57) /\
  ak 1 3 [(.int .i64 0)] w183 s57 (.slc (⟨(some ⟨r166, 0, none⟩), 1, 1⟩ : Slc)) fun s185 w186 =>
  needSome u1 fun a187 =>
  aw w186 (a187.add 1) 1 /\ ∀ w188, w188 = w186.setCell (a187.add 1) s63.v ->
  needSome u1 fun a189 =>
  aw w188 (a189.add 2) 1 /\ ∀ w190, w190 = w188.setCell (a189.add 2) (Slc.v s182) ->
  needSome u1 fun a191 =>
  aw w190 (a191.add 3) 1 /\ ∀ w192, w192 = w190.setCell (a191.add 3) (Slc.v s185) ->
  inR .i64 (at3 + 1) /\
  needSome u1 fun a193 =>
  ∃ n194, w192.cell? (a193.add 6) = some (.int .i64 n194) /\
  BIf (decide (n194 < (at3 + 1))) (
  inR .i64 (at3 + 1) /\
  needSome u1 fun a195 =>
  aw w192 (a195.add 6) 1 /\ ∀ w196, w196 = w192.setCell (a195.add 6) (.int .i64 (at3 + 1)) ->
  K (.int .i64 0) w196) (
  K (.int .i64 0) w192))) /\
  (
  aA w59 (.cells ⟨[]⟩ 5) fun r197 w198 =>
  (ckSx (w198.cell? (a56.add 3)) s57) /\
  (ckSx (w198.cell? (a54.add 2)) s55) /\
  (ckSx (w198.cell? (a52.add 1)) s53) /\
  (
  ak 1 3 [(.int .i64 0)] w198 s53 (.slc (⟨(some ⟨r58, 0, none⟩), 1, 1⟩ : Slc)) fun s202 w203 =>
  (ckSx (w203.cell? (a56.add 3)) s57) /\
  (ckSx (w203.cell? (a54.add 2)) s55) /\
  (
  ak 1 5 [(.int .u8 0)] w203 (⟨(some ⟨r197, 0, none⟩), 0, 0⟩ : Slc) (.slc b4) fun s206 w207 =>
  (ckSx (w207.cell? (a56.add 3)) s57) /\
  (ckSx (w207.cell? (a54.add 2)) s55) /\
  (
  aA w207 (.cells ⟨[(Slc.v s206)]⟩ 45) fun r210 w211 =>
  (ckSx (w211.cell? (a56.add 3)) s57) /\
  (ckSx (w211.cell? (a54.add 2)) s55) /\
  (
  ak 1 45 [(Slc.v ⟨none, 0, 0⟩)] w211 s55 (.slc (⟨(some ⟨r210, 0, none⟩), 1, 1⟩ : Slc)) fun s214 w215 =>
  (ckSx (w215.cell? (a56.add 3)) s57) /\
  aA w215 (.cells ⟨[(.int .i64 n50)]⟩ 3) fun r217 w218 =>
  (ckSx (w218.cell? (a56.add 3)) s57) /\
  ak 1 3 [(.int .i64 0)] w218 s57 (.slc (⟨(some ⟨r217, 0, none⟩), 1, 1⟩ : Slc)) fun s220 w221 =>
  needSome u1 fun a222 =>
  aw w221 (a222.add 1) 1 /\ ∀ w223, w223 = w221.setCell (a222.add 1) (Slc.v s202) ->
  needSome u1 fun a224 =>
  aw w223 (a224.add 2) 1 /\ ∀ w225, w225 = w223.setCell (a224.add 2) (Slc.v s214) ->
  needSome u1 fun a226 =>
  aw w225 (a226.add 3) 1 /\ ∀ w227, w227 = w225.setCell (a226.add 3) (Slc.v s220) ->
  inR .i64 (at3 + 1) /\
  needSome u1 fun a228 =>
  ∃ n229, w227.cell? (a228.add 6) = some (.int .i64 n229) /\
  BIf (decide (n229 < (at3 + 1))) (
  inR .i64 (at3 + 1) /\
  needSome u1 fun a230 =>
  aw w227 (a230.add 6) 1 /\ ∀ w231, w231 = w227.setCell (a230.add 6) (.int .i64 (at3 + 1)) ->
  K (.int .i64 0) w231) (
  K (.int .i64 0) w227)) /\
  (
  aA w211 (.cells ⟨[(.int .i64 n50)]⟩ 3) fun r232 w233 =>
  (ckSx (w233.cell? (a56.add 3)) s57) /\
  (ckSx (w233.cell? (a54.add 2)) s55) /\
  ak 1 45 [(Slc.v ⟨none, 0, 0⟩)] w233 s55 (.slc (⟨(some ⟨r210, 0, none⟩), 1, 1⟩ : Slc)) fun s236 w237 =>
  (ckSx (w237.cell? (a56.add 3)) s57) /\
  ak 1 3 [(.int .i64 0)] w237 s57 (.slc (⟨(some ⟨r232, 0, none⟩), 1, 1⟩ : Slc)) fun s239 w240 =>
  needSome u1 fun a241 =>
  aw w240 (a241.add 1) 1 /\ ∀ w242, w242 = w240.setCell (a241.add 1) s202.v ->
  needSome u1 fun a243 =>
  aw w242 (a243.add 2) 1 /\ ∀ w244, w244 = w242.setCell (a243.add 2) (Slc.v s236) ->
  needSome u1 fun a245 =>
  aw w244 (a245.add 3) 1 /\ ∀ w246, w246 = w244.setCell (a245.add 3) (Slc.v s239) ->
  inR .i64 (at3 + 1) /\
  needSome u1 fun a247 =>
  ∃ n248, w246.cell? (a247.add 6) = some (.int .i64 n248) /\
  BIf (decide (n248 < (at3 + 1))) (
  inR .i64 (at3 + 1) /\
  needSome u1 fun a249 =>
  aw w246 (a249.add 6) 1 /\ ∀ w250, w250 = w246.setCell (a249.add 6) (.int .i64 (at3 + 1)) ->
  K (.int .i64 0) w250) (
  K (.int .i64 0) w246))) /\
  (
  aA w207 (.cells ⟨[(.int .i64 n50)]⟩ 3) fun r251 w252 =>
  (ckSx (w252.cell? (a56.add 3)) s57) /\
  (ckSx (w252.cell? (a54.add 2)) s55) /\
  aA w252 (.cells ⟨[s206.v]⟩ 45) fun r255 w256 =>
  (ckSx (w256.cell? (a56.add 3)) s57) /\
  (ckSx (w256.cell? (a54.add 2)) s55) /\
  ak 1 45 [(Slc.v ⟨none, 0, 0⟩)] w256 s55 (.slc (⟨(some ⟨r255, 0, none⟩), 1, 1⟩ : Slc)) fun s259 w260 =>
  (ckSx (w260.cell? (a56.add 3)) s57) /\
  ak 1 3 [(.int .i64 0)] w260 s57 (.slc (⟨(some ⟨r251, 0, none⟩), 1, 1⟩ : Slc)) fun s262 w263 =>
  needSome u1 fun a264 =>
  aw w263 (a264.add 1) 1 /\ ∀ w265, w265 = w263.setCell (a264.add 1) s202.v ->
  needSome u1 fun a266 =>
  aw w265 (a266.add 2) 1 /\ ∀ w267, w267 = w265.setCell (a266.add 2) (Slc.v s259) ->
  needSome u1 fun a268 =>
  aw w267 (a268.add 3) 1 /\ ∀ w269, w269 = w267.setCell (a268.add 3) (Slc.v s262) ->
  inR .i64 (at3 + 1) /\
  needSome u1 fun a270 =>
  ∃ n271, w269.cell? (a270.add 6) = some (.int .i64 n271) /\
  BIf (decide (n271 < (at3 + 1))) (
  inR .i64 (at3 + 1) /\
  needSome u1 fun a272 =>
  aw w269 (a272.add 6) 1 /\ ∀ w273, w273 = w269.setCell (a272.add 6) (.int .i64 (at3 + 1)) ->
  K (.int .i64 0) w273) (
  K (.int .i64 0) w269))) /\
  (
  aA w203 (.cells ⟨[(.int .i64 n50)]⟩ 3) fun r274 w275 =>
  (ckSx (w275.cell? (a56.add 3)) s57) /\
  (ckSx (w275.cell? (a54.add 2)) s55) /\
  ak 1 5 [(.int .u8 0)] w275 (⟨(some ⟨r197, 0, none⟩), 0, 0⟩ : Slc) (.slc b4) fun s278 w279 =>
  (ckSx (w279.cell? (a56.add 3)) s57) /\
  (ckSx (w279.cell? (a54.add 2)) s55) /\
  aA w279 (.cells ⟨[(Slc.v s278)]⟩ 45) fun r282 w283 =>
  (ckSx (w283.cell? (a56.add 3)) s57) /\
  (ckSx (w283.cell? (a54.add 2)) s55) /\
  ak 1 45 [(Slc.v ⟨none, 0, 0⟩)] w283 s55 (.slc (⟨(some ⟨r282, 0, none⟩), 1, 1⟩ : Slc)) fun s286 w287 =>
  (ckSx (w287.cell? (a56.add 3)) s57) /\
  ak 1 3 [(.int .i64 0)] w287 s57 (.slc (⟨(some ⟨r274, 0, none⟩), 1, 1⟩ : Slc)) fun s289 w290 =>
  needSome u1 fun a291 =>
  aw w290 (a291.add 1) 1 /\ ∀ w292, w292 = w290.setCell (a291.add 1) s202.v ->
  needSome u1 fun a293 =>
  aw w292 (a293.add 2) 1 /\ ∀ w294, w294 = w292.setCell (a293.add 2) (Slc.v s286) ->
  needSome u1 fun a295 =>
  aw w294 (a295.add 3) 1 /\ ∀ w296, w296 = w294.setCell (a295.add 3) (Slc.v s289) ->
  inR .i64 (at3 + 1) /\
  needSome u1 fun a297 =>
  ∃ n298, w296.cell? (a297.add 6) = some (.int .i64 n298) /\
  BIf (decide (n298 < (at3 + 1))) (
  inR .i64 (at3 + 1) /\
  needSome u1 fun a299 =>
  aw w296 (a299.add 6) 1 /\ ∀ w300, w300 = w296.setCell (a299.add 6) (.int .i64 (at3 + 1)) ->
  K (.int .i64 0) w300) (
  K (.int .i64 0) w296))) /\
  (
  aA w198 (.cells ⟨[(.int .i64 n50)]⟩ 3) fun r301 w302 =>
  (ckSx (w302.cell? (a56.add 3)) s57) /\
  (ckSx (w302.cell? (a54.add 2)) s55) /\
  (ckSx (w302.cell? (a52.add 1)) s53) /\
  ak 1 3 [(.int .i64 0)] w302 s53 (.slc (⟨(some ⟨r58, 0, none⟩), 1, 1⟩ : Slc)) fun s306 w307 =>
  (ckSx (w307.cell? (a56.add 3)) s57) /\
  (ckSx (w307.cell? (a54.add 2)) s55) /\
  ak 1 5 [(.int .u8 0)] w307 (⟨(some ⟨r197, 0, none⟩), 0, 0⟩ : Slc) (.slc b4) fun s310 w311 =>
  (ckSx (w311.cell? (a56.add 3)) s57) /\
  (ckSx (w311.cell? (a54.add 2)) s55) /\
  aA w311 (.cells ⟨[(Slc.v s310)]⟩ 45) fun r314 w315 =>
  (ckSx (w315.cell? (a56.add 3)) s57) /\
  (ckSx (w315.cell? (a54.add 2)) s55) /\
  ak 1 45 [(Slc.v ⟨none, 0, 0⟩)] w315 s55 (.slc (⟨(some ⟨r314, 0, none⟩), 1, 1⟩ : Slc)) fun s318 w319 =>
  (ckSx (w319.cell? (a56.add 3)) s57) /\
  ak 1 3 [(.int .i64 0)] w319 s57 (.slc (⟨(some ⟨r301, 0, none⟩), 1, 1⟩ : Slc)) fun s321 w322 =>
  needSome u1 fun a323 =>
  aw w322 (a323.add 1) 1 /\ ∀ w324, w324 = w322.setCell (a323.add 1) (Slc.v s306) ->
  needSome u1 fun a325 =>
  aw w324 (a325.add 2) 1 /\ ∀ w326, w326 = w324.setCell (a325.add 2) (Slc.v s318) ->
  needSome u1 fun a327 =>
  aw w326 (a327.add 3) 1 /\ ∀ w328, w328 = w326.setCell (a327.add 3) (Slc.v s321) ->
  inR .i64 (at3 + 1) /\
  needSome u1 fun a329 =>
  ∃ n330, w328.cell? (a329.add 6) = some (.int .i64 n330) /\
  BIf (decide (n330 < (at3 + 1))) (
  inR .i64 (at3 + 1) /\
  needSome u1 fun a331 =>
  aw w328 (a331.add 6) 1 /\ ∀ w332, w332 = w328.setCell (a331.add 6) (.int .i64 (at3 + 1)) ->
  K (.int .i64 0) w332) (
  K (.int .i64 0) w328))) /\
  (
  aA w59 (.cells ⟨[(.int .i64 n50)]⟩ 3) fun r333 w334 =>
  (ckSx (w334.cell? (a56.add 3)) s57) /\
  (ckSx (w334.cell? (a54.add 2)) s55) /\
  (ckSx (w334.cell? (a52.add 1)) s53) /\
  (
  ak 1 3 [(.int .i64 0)] w334 s53 (.slc (⟨(some ⟨r58, 0, none⟩), 1, 1⟩ : Slc)) fun s338 w339 =>
  (ckSx (w339.cell? (a56.add 3)) s57) /\
  (ckSx (w339.cell? (a54.add 2)) s55) /\
  aA w339 (.cells ⟨[]⟩ 5) fun r342 w343 =>
  (ckSx (w343.cell? (a56.add 3)) s57) /\
  (ckSx (w343.cell? (a54.add 2)) s55) /\
  ak 1 5 [(.int .u8 0)] w343 (⟨(some ⟨r342, 0, none⟩), 0, 0⟩ : Slc) (.slc b4) fun s346 w347 =>
  (ckSx (w347.cell? (a56.add 3)) s57) /\
  (ckSx (w347.cell? (a54.add 2)) s55) /\
  aA w347 (.cells ⟨[(Slc.v s346)]⟩ 45) fun r350 w351 =>
  (ckSx (w351.cell? (a56.add 3)) s57) /\
  (ckSx (w351.cell? (a54.add 2)) s55) /\
  ak 1 45 [(Slc.v ⟨none, 0, 0⟩)] w351 s55 (.slc (⟨(some ⟨r350, 0, none⟩), 1, 1⟩ : Slc)) fun s354 w355 =>
  (ckSx (w355.cell? (a56.add 3)) s57) /\
  ak 1 3 [(.int .i64 0)] w355 s57 (.slc (⟨(some ⟨r333, 0, none⟩), 1, 1⟩ : Slc)) fun s357 w358 =>
  needSome u1 fun a359 =>
  aw w358 (a359.add 1) 1 /\ ∀ w360, w360 = w358.setCell (a359.add 1) (Slc.v s338) ->
  needSome u1 fun a361 =>
  aw w360 (a361.add 2) 1 /\ ∀ w362, w362 = w360.setCell (a361.add 2) (Slc.v s354) ->
  needSome u1 fun a363 =>
  aw w362 (a363.add 3) 1 /\ ∀ w364, w364 = w362.setCell (a363.add 3) (Slc.v s357) ->
  inR .i64 (at3 + 1) /\
  needSome u1 fun a365 =>
  ∃ n366, w364.cell? (a365.add 6) = some (.int .i64 n366) /\
  BIf (decide (n366 < (at3 + 1))) (
  inR .i64 (at3 + 1) /\
  needSome u1 fun a367 =>
  aw w364 (a367.add 6) 1 /\ ∀ w368, w368 = w364.setCell (a367.add 6) (.int .i64 (at3 + 1)) ->
  K (.int .i64 0) w368) (
  K (.int .i64 0) w364)) /\
  (
  aA w334 (.cells ⟨[]⟩ 5) fun r369 w370 =>
  (ckSx (w370.cell? (a56.add 3)) s57) /\
  (ckSx (w370.cell? (a54.add 2)) s55) /\
  (ckSx (w370.cell? (a52.add 1)) s53) /\
  ak 1 3 [(.int .i64 0)] w370 s53 (.slc (⟨(some ⟨r58, 0, none⟩), 1, 1⟩ : Slc)) fun s374 w375 =>
  (ckSx (w375.cell? (a56.add 3)) s57) /\
  (ckSx (w375.cell? (a54.add 2)) s55) /\
  ak 1 5 [(.int .u8 0)] w375 (⟨(some ⟨r369, 0, none⟩), 0, 0⟩ : Slc) (.slc b4) fun s378 w379 =>
  (ckSx (w379.cell? (a56.add 3)) s57) /\
  (ckSx (w379.cell? (a54.add 2)) s55) /\
  aA w379 (.cells ⟨[(Slc.v s378)]⟩ 45) fun r382 w383 =>
  (ckSx (w383.cell? (a56.add 3)) s57) /\
  (ckSx (w383.cell? (a54.add 2)) s55) /\
  ak 1 45 [(Slc.v ⟨none, 0, 0⟩)] w383 s55 (.slc (⟨(some ⟨r382, 0, none⟩), 1, 1⟩ : Slc)) fun s386 w387 =>
  (ckSx (w387.cell? (a56.add 3)) s57) /\
  ak 1 3 [(.int .i64 0)] w387 s57 (.slc (⟨(some ⟨r333, 0, none⟩), 1, 1⟩ : Slc)) fun s389 w390 =>
  needSome u1 fun a391 =>
  aw w390 (a391.add 1) 1 /\ ∀ w392, w392 = w390.setCell (a391.add 1) (Slc.v s374) ->
  needSome u1 fun a393 =>
  aw w392 (a393.add 2) 1 /\ ∀ w394, w394 = w392.setCell (a393.add 2) (Slc.v s386) ->
  needSome u1 fun a395 =>
  aw w394 (a395.add 3) 1 /\ ∀ w396, w396 = w394.setCell (a395.add 3) (Slc.v s389) ->
  inR .i64 (at3 + 1) /\
  needSome u1 fun a397 =>
  ∃ n398, w396.cell? (a397.add 6) = some (.int .i64 n398) /\
  BIf (decide (n398 < (at3 + 1))) (
  inR .i64 (at3 + 1) /\
  needSome u1 fun a399 =>
  aw w396 (a399.add 6) 1 /\ ∀ w400, w400 = w396.setCell (a399.add 6) (.int .i64 (at3 + 1)) ->
  K (.int .i64 0) w400) (
  K (.int .i64 0) w396)))) /\
  (
  aA w49.drew (.cells ⟨[]⟩ 5) fun r401 w402 =>
  (ckSx (w402.cell? (a56.add 3)) s57) /\
  (ckSx (w402.cell? (a54.add 2)) s55) /\
  (ckSx (w402.cell? (a52.add 1)) s53) /\
  (
  aA w402 (.cells ⟨[(.int .i64 at3)]⟩ 3) fun r406 w407 =>
  (ckSx (w407.cell? (a56.add 3)) s57) /\
  (ckSx (w407.cell? (a54.add 2)) s55) /\
  (ckSx (w407.cell? (a52.add 1)) s53) /\
  (
  ak 1 3 [(.int .i64 0)] w407 s53 (.slc (⟨(some ⟨r406, 0, none⟩), 1, 1⟩ : Slc)) fun s411 w412 =>
  (ckSx (w412.cell? (a56.add 3)) s57) /\
  (ckSx (w412.cell? (a54.add 2)) s55) /\
  (
  ak 1 5 [(.int .u8 0)] w412 (⟨(some ⟨r401, 0, none⟩), 0, 0⟩ : Slc) (.slc b4) fun s415 w416 =>
  (ckSx (w416.cell? (a56.add 3)) s57) /\
  (ckSx (w416.cell? (a54.add 2)) s55) /\
  (
  aA w416 (.cells ⟨[(Slc.v s415)]⟩ 45) fun r419 w420 =>
  (ckSx (w420.cell? (a56.add 3)) s57) /\
  (ckSx (w420.cell? (a54.add 2)) s55) /\
  (
  ak 1 45 [(Slc.v ⟨none, 0, 0⟩)] w420 s55 (.slc (⟨(some ⟨r419, 0, none⟩), 1, 1⟩ : Slc)) fun s423 w424 =>
  (ckSx (w424.cell? (a56.add 3)) s57) /\
  aA w424 (.cells ⟨[(.int .i64 n50)]⟩ 3) fun r426 w427 =>
  (ckSx (w427.cell? (a56.add 3)) s57) /\
  ak 1 3 [(.int .i64 0)] w427 s57 (.slc (⟨(some ⟨r426, 0, none⟩), 1, 1⟩ : Slc)) fun s429 w430 =>
  needSome u1 fun a431 =>
  aw w430 (a431.add 1) 1 /\ ∀ w432, w432 = w430.setCell (a431.add 1) (Slc.v s411) ->
  needSome u1 fun a433 =>
  aw w432 (a433.add 2) 1 /\ ∀ w434, w434 = w432.setCell (a433.add 2) (Slc.v s423) ->
  needSome u1 fun a435 =>
  aw w434 (a435.add 3) 1 /\ ∀ w436, w436 = w434.setCell (a435.add 3) (Slc.v s429) ->
  inR .i64 (at3 + 1) /\
  needSome u1 fun a437 =>
  ∃ n438, w436.cell? (a437.add 6) = some (.int .i64 n438) /\
  BIf (decide (n438 < (at3 + 1))) (
  inR .i64 (at3 + 1) /\
  needSome u1 fun a439 =>
  aw w436 (a439.add 6) 1 /\ ∀ w440, w440 = w436.setCell (a439.add 6) (.int .i64 (at3 + 1)) ->
  K (.int .i64 0) w440) (
  K (.int .i64 0) w436)) /\
  (
  aA w420 (.cells ⟨[(.int .i64 n50)]⟩ 3) fun r441 w442 =>
  (ckSx (w442.cell? (a56.add 3)) s57) /\
  (ckSx (w442.cell? (a54.add 2)) s55) /\
  ak 1 45 [(Slc.v ⟨none, 0, 0⟩)] w442 s55 (.slc (⟨(some ⟨r419, 0, none⟩), 1, 1⟩ : Slc)) fun s445 w446 =>
  (ckSx (w446.cell? (a56.add 3)) s57) /\
  ak 1 3 [(.int .i64 0)] w446 s57 (.slc (⟨(some ⟨r441, 0, none⟩), 1, 1⟩ : Slc)) fun s448 w449 =>
  needSome u1 fun a450 =>
  aw w449 (a450.add 1) 1 /\ ∀ w451, w451 = w449.setCell (a450.add 1) s411.v ->
  needSome u1 fun a452 =>
  aw w451 (a452.add 2) 1 /\ ∀ w453, w453 = w451.setCell (a452.add 2) (Slc.v s445) ->
  needSome u1 fun a454 =>
  aw w453 (a454.add 3) 1 /\ ∀ w455, w455 = w453.setCell (a454.add 3) (Slc.v s448) ->
  inR .i64 (at3 + 1) /\
  needSome u1 fun a456 =>
  ∃ n457, w455.cell? (a456.add 6) = some (.int .i64 n457) /\
  BIf (decide (n457 < (at3 + 1))) (
  inR .i64 (at3 + 1) /\
  needSome u1 fun a458 =>
  aw w455 (a458.add 6) 1 /\ ∀ w459, w459 = w455.setCell (a458.add 6) (.int .i64 (at3 + 1)) ->
  K (.int .i64 0) w459) (
  K (.int .i64 0) w455))) /\
  (
  aA w416 (.cells ⟨[(.int .i64 n50)]⟩ 3) fun r460 w461 =>
  (ckSx (w461.cell? (a56.add 3)) s57) /\
  (ckSx (w461.cell? (a54.add 2)) s55) /\
  aA w461 (.cells ⟨[s415.v]⟩ 45) fun r464 w465 =>
  (ckSx (w465.cell? (a56.add 3)) s57) /\
  (ckSx (w465.cell? (a54.add 2)) s55) /\
  ak 1 45 [(Slc.v ⟨none, 0, 0⟩)] w465 s55 (.slc (⟨(some ⟨r464, 0, none⟩), 1, 1⟩ : Slc)) fun s468 w469 =>
  (ckSx (w469.cell? (a56.add 3)) s57) /\
  ak 1 3 [(.int .i64 0)] w469 s57 (.slc (⟨(some ⟨r460, 0, none⟩), 1, 1⟩ : Slc)) fun s471 w472 =>
  needSome u1 fun a473 =>
  aw w472 (a473.add 1) 1 /\ ∀ w474, w474 = w472.setCell (a473.add 1) s411.v ->
  needSome u1 fun a475 =>
  aw w474 (a475.add 2) 1 /\ ∀ w476, w476 = w474.setCell (a475.add 2) (Slc.v s468) ->
  needSome u1 fun a477 =>
  aw w476 (a477.add 3) 1 /\ ∀ w478, w478 = w476.setCell (a477.add 3) (Slc.v s471) ->
  inR .i64 (at3 + 1) /\
  needSome u1 fun a479 =>
  ∃ n480, w478.cell? (a479.add 6) = some (.int .i64 n480) /\
  BIf (decide (n480 < (at3 + 1))) (
  inR .i64 (at3 + 1) /\
  needSome u1 fun a481 =>
  aw w478 (a481.add 6) 1 /\ ∀ w482, w482 = w478.setCell (a481.add 6) (.int .i64 (at3 + 1)) ->
  K (.int .i64 0) w482) (
  K (.int .i64 0) w478))) /\
  (
  aA w412 (.cells ⟨[(.int .i64 n50)]⟩ 3) fun r483 w484 =>
  (ckSx (w484.cell? (a56.add 3)) s57) /\
  (ckSx (w484.cell? (a54.add 2)) s55) /\
  ak 1 5 [(.int .u8 0)] w484 (⟨(some ⟨r401, 0, none⟩), 0, 0⟩ : Slc) (.slc b4) fun s487 w488 =>
  (ckSx (w488.cell? (a56.add 3)) s57) /\
  (ckSx (w488.cell? (a54.add 2)) s55) /\
  aA w488 (.cells ⟨[(Slc.v s487)]⟩ 45) fun r491 w492 =>
  (ckSx (w492.cell? (a56.add 3)) s57) /\
  (ckSx (w492.cell? (a54.add 2)) s55) /\
  ak 1 45 [(Slc.v ⟨none, 0, 0⟩)] w492 s55 (.slc (⟨(some ⟨r491, 0, none⟩), 1, 1⟩ : Slc)) fun s495 w496 =>
  (ckSx (w496.cell? (a56.add 3)) s57) /\
  ak 1 3 [(.int .i64 0)] w496 s57 (.slc (⟨(some ⟨r483, 0, none⟩), 1, 1⟩ : Slc)) fun s498 w499 =>
  needSome u1 fun a500 =>
  aw w499 (a500.add 1) 1 /\ ∀ w501, w501 = w499.setCell (a500.add 1) s411.v ->
  needSome u1 fun a502 =>
  aw w501 (a502.add 2) 1 /\ ∀ w503, w503 = w501.setCell (a502.add 2) (Slc.v s495) ->
  needSome u1 fun a504 =>
  aw w503 (a504.add 3) 1 /\ ∀ w505, w505 = w503.setCell (a504.add 3) (Slc.v s498) ->
  inR .i64 (at3 + 1) /\
  needSome u1 fun a506 =>
  ∃ n507, w505.cell? (a506.add 6) = some (.int .i64 n507) /\
  BIf (decide (n507 < (at3 + 1))) (
  inR .i64 (at3 + 1) /\
  needSome u1 fun a508 =>
  aw w505 (a508.add 6) 1 /\ ∀ w509, w509 = w505.setCell (a508.add 6) (.int .i64 (at3 + 1)) ->
  K (.int .i64 0) w509) (
  K (.int .i64 0) w505))) /\
  (
  aA w407 (.cells ⟨[(.int .i64 n50)]⟩ 3) fun r510 w511 =>
  (ckSx (w511.cell? (a56.add 3)) s57) /\
  (ckSx (w511.cell? (a54.add 2)) s55) /\
  (ckSx (w511.cell? (a52.add 1)) s53) /\
  ak 1 3 [(.int .i64 0)] w511 s53 (.slc (⟨(some ⟨r406, 0, none⟩), 1, 1⟩ : Slc)) fun s515 w516 =>
  (ckSx (w516.cell? (a56.add 3)) s57) /\
  (ckSx (w516.cell? (a54.add 2)) s55) /\
  ak 1 5 [(.int .u8 0)] w516 (⟨(some ⟨r401, 0, none⟩), 0, 0⟩ : Slc) (.slc b4) fun s519 w520 =>
  (ckSx (w520.cell? (a56.add 3)) s57) /\
  (ckSx (w520.cell? (a54.add 2)) s55) /\
  aA w520 (.cells ⟨[(Slc.v s519)]⟩ 45) fun r523 w524 =>
  (ckSx (w524.cell? (a56.add 3)) s57) /\
  (ckSx (w524.cell? (a54.add 2)) s55) /\
  ak 1 45 [(Slc.v ⟨none, 0, 0⟩)] w524 s55 (.slc (⟨(some ⟨r523, 0, none⟩), 1, 1⟩ : Slc)) fun s527 w528 =>
  (ckSx (w528.cell? (a56.add 3)) s57) /\
  ak 1 3 [(.int .i64 0)] w528 s57 (.slc (⟨(some ⟨r510, 0, none⟩), 1, 1⟩ : Slc)) fun s530 w531 =>
  needSome u1 fun a532 =>
  aw w531 (a532.add 1) 1 /\ ∀ w533, w533 = w531.setCell (a532.add 1) (Slc.v s515) ->
  needSome u1 fun a534 =>
  aw w533 (a534.add 2) 1 /\ ∀ w535, w535 = w533.setCell (a534.add 2) (Slc.v s527) ->
  needSome u1 fun a536 =>
  aw w535 (a536.add 3) 1 /\ ∀ w537, w537 = w535.setCell (a536.add 3) (Slc.v s530) ->
  inR .i64 (at3 + 1) /\
  needSome u1 fun a538 =>
  ∃ n539, w537.cell? (a538.add 6) = some (.int .i64 n539) /\
  BIf (decide (n539 < (at3 + 1))) (
  inR .i64 (at3 + 1) /\
  needSome u1 fun a540 =>
  aw w537 (a540.add 6) 1 /\ ∀ w541, w541 = w537.setCell (a540.add 6) (.int .i64 (at3 + 1)) ->
  K (.int .i64 0) w541) (
  K (.int .i64 0) w537))) /\
  (
  aA w402 (.cells ⟨[(.int .i64 n50)]⟩ 3) fun r542 w543 =>
  (ckSx (w543.cell? (a56.add 3)) s57) /\
  (ckSx (w543.cell? (a54.add 2)) s55) /\
  (ckSx (w543.cell? (a52.add 1)) s53) /\
  aA w543 (.cells ⟨[(.int .i64 at3)]⟩ 3) fun r547 w548 =>
  (ckSx (w548.cell? (a56.add 3)) s57) /\
  (ckSx (w548.cell? (a54.add 2)) s55) /\
  (ckSx (w548.cell? (a52.add 1)) s53) /\
  ak 1 3 [(.int .i64 0)] w548 s53 (.slc (⟨(some ⟨r547, 0, none⟩), 1, 1⟩ : Slc)) fun s552 w553 =>
  (ckSx (w553.cell? (a56.add 3)) s57) /\
  (ckSx (w553.cell? (a54.add 2)) s55) /\
  ak 1 5 [(.int .u8 0)] w553 (⟨(some ⟨r401, 0, none⟩), 0, 0⟩ : Slc) (.slc b4) fun s556 w557 =>
  (ckSx (w557.cell? (a56.add 3)) s57) /\
  (ckSx (w557.cell? (a54.add 2)) s55) /\
  aA w557 (.cells ⟨[(Slc.v s556)]⟩ 45) fun r560 w561 =>
  (ckSx (w561.cell? (a56.add 3)) s57) /\
  (ckSx (w561.cell? (a54.add 2)) s55) /\
  ak 1 45 [(Slc.v ⟨none, 0, 0⟩)] w561 s55 (.slc (⟨(some ⟨r560, 0, none⟩), 1, 1⟩ : Slc)) fun s564 w565 =>
  (ckSx (w565.cell? (a56.add 3)) s57) /\
  ak 1 3 [(.int .i64 0)] w565 s57 (.slc (⟨(some ⟨r542, 0, none⟩), 1, 1⟩ : Slc)) fun s567 w568 =>
  needSome u1 fun a569 =>
  aw w568 (a569.add 1) 1 /\ ∀ w570, w570 = w568.setCell (a569.add 1) (Slc.v s552) ->
  needSome u1 fun a571 =>
  aw w570 (a571.add 2) 1 /\ ∀ w572, w572 = w570.setCell (a571.add 2) (Slc.v s564) ->
  needSome u1 fun a573 =>
  aw w572 (a573.add 3) 1 /\ ∀ w574, w574 = w572.setCell (a573.add 3) (Slc.v s567) ->
  inR .i64 (at3 + 1) /\
  needSome u1 fun a575 =>
  ∃ n576, w574.cell? (a575.add 6) = some (.int .i64 n576) /\
  BIf (decide (n576 < (at3 + 1))) (
  inR .i64 (at3 + 1) /\
  needSome u1 fun a577 =>
  aw w574 (a577.add 6) 1 /\ ∀ w578, w578 = w574.setCell (a577.add 6) (.int .i64 (at3 + 1)) ->
  K (.int .i64 0) w578) (
  K (.int .i64 0) w574))) /\
  (
  aA w49.drew (.cells ⟨[(.int .i64 n50)]⟩ 3) fun r579 w580 =>
  (ckSx (w580.cell? (a56.add 3)) s57) /\
  (ckSx (w580.cell? (a54.add 2)) s55) /\
  (ckSx (w580.cell? (a52.add 1)) s53) /\
  (
  aA w580 (.cells ⟨[(.int .i64 at3)]⟩ 3) fun r584 w585 =>
  (ckSx (w585.cell? (a56.add 3)) s57) /\
  (ckSx (w585.cell? (a54.add 2)) s55) /\
  (ckSx (w585.cell? (a52.add 1)) s53) /\
  (
  ak 1 3 [(.int .i64 0)] w585 s53 (.slc (⟨(some ⟨r584, 0, none⟩), 1, 1⟩ : Slc)) fun s589 w590 =>
  (ckSx (w590.cell? (a56.add 3)) s57) /\
  (ckSx (w590.cell? (a54.add 2)) s55) /\
  aA w590 (.cells ⟨[]⟩ 5) fun r593 w594 =>
  (ckSx (w594.cell? (a56.add 3)) s57) /\
  (ckSx (w594.cell? (a54.add 2)) s55) /\
  ak 1 5 [(.int .u8 0)] w594 (⟨(some ⟨r593, 0, none⟩), 0, 0⟩ : Slc) (.slc b4) fun s597 w598 =>
  (ckSx (w598.cell? (a56.add 3)) s57) /\
  (ckSx (w598.cell? (a54.add 2)) s55) /\
  aA w598 (.cells ⟨[(Slc.v s597)]⟩ 45) fun r601 w602 =>
  (ckSx (w602.cell? (a56.add 3)) s57) /\
  (ckSx (w602.cell? (a54.add 2)) s55) /\
  ak 1 45 [(Slc.v ⟨none, 0, 0⟩)] w602 s55 (.slc (⟨(some ⟨r601, 0, none⟩), 1, 1⟩ : Slc)) fun s605 w606 =>
  (ckSx (w606.cell? (a56.add 3)) s57) /\
  ak 1 3 [(.int .i64 0)] w606 s57 (.slc (⟨(some ⟨r579, 0, none⟩), 1, 1⟩ : Slc)) fun s608 w609 =>
  needSome u1 fun a610 =>
  aw w609 (a610.add 1) 1 /\ ∀ w611, w611 = w609.setCell (a610.add 1) (Slc.v s589) ->
  needSome u1 fun a612 =>
  aw w611 (a612.add 2) 1 /\ ∀ w613, w613 = w611.setCell (a612.add 2) (Slc.v s605) ->
  needSome u1 fun a614 =>
  aw w613 (a614.add 3) 1 /\ ∀ w615, w615 = w613.setCell (a614.add 3) (Slc.v s608) ->
  inR .i64 (at3 + 1) /\
  needSome u1 fun a616 =>
  ∃ n617, w615.cell? (a616.add 6) = some (.int .i64 n617) /\
  BIf (decide (n617 < (at3 + 1))) (
  inR .i64 (at3 + 1) /\
  needSome u1 fun a618 =>
  aw w615 (a618.add 6) 1 /\ ∀ w619, w619 = w615.setCell (a618.add 6) (.int .i64 (at3 + 1)) ->
  K (.int .i64 0) w619) (
  K (.int .i64 0) w615)) /\
  (
  aA w585 (.cells ⟨[]⟩ 5) fun r620 w621 =>
  (ckSx (w621.cell? (a56.add 3)) s57) /\
  (ckSx (w621.cell? (a54.add 2)) s55) /\
  (ckSx (w621.cell? (a52.add 1)) s53) /\
  ak 1 3 [(.int .i64 0)] w621 s53 (.slc (⟨(some ⟨r584, 0, none⟩), 1, 1⟩ : Slc)) fun s625 w626 =>
  (ckSx (w626.cell? (a56.add 3)) s57) /\
  (ckSx (w626.cell? (a54.add 2)) s55) /\
  ak 1 5 [(.int .u8 0)] w626 (⟨(some ⟨r620, 0, none⟩), 0, 0⟩ : Slc) (.slc b4) fun s629 w630 =>
  (ckSx (w630.cell? (a56.add 3)) s57) /\
  (ckSx (w630.cell? (a54.add 2)) s55) /\
  aA w630 (.cells ⟨[(Slc.v s629)]⟩ 45) fun r633 w634 =>
  (ckSx (w634.cell? (a56.add 3)) s57) /\
  (ckSx (w634.cell? (a54.add 2)) s55) /\
  ak 1 45 [(Slc.v ⟨none, 0, 0⟩)] w634 s55 (.slc (⟨(some ⟨r633, 0, none⟩), 1, 1⟩ : Slc)) fun s637 w638 =>
  (ckSx (w638.cell? (a56.add 3)) s57) /\
  ak 1 3 [(.int .i64 0)] w638 s57 (.slc (⟨(some ⟨r579, 0, none⟩), 1, 1⟩ : Slc)) fun s640 w641 =>
  needSome u1 fun a642 =>
  aw w641 (a642.add 1) 1 /\ ∀ w643, w643 = w641.setCell (a642.add 1) (Slc.v s625) ->
  needSome u1 fun a644 =>
  aw w643 (a644.add 2) 1 /\ ∀ w645, w645 = w643.setCell (a644.add 2) (Slc.v s637) ->
  needSome u1 fun a646 =>
  aw w645 (a646.add 3) 1 /\ ∀ w647, w647 = w645.setCell (a646.add 3) (Slc.v s640) ->
  inR .i64 (at3 + 1) /\
  needSome u1 fun a648 =>
  ∃ n649, w647.cell? (a648.add 6) = some (.int .i64 n649) /\
  BIf (decide (n649 < (at3 + 1))) (
  inR .i64 (at3 + 1) /\
  needSome u1 fun a650 =>
  aw w647 (a650.add 6) 1 /\ ∀ w651, w651 = w647.setCell (a650.add 6) (.int .i64 (at3 + 1)) ->
  K (.int .i64 0) w651) (
  K (.int .i64 0) w647))) /\
  (
  aA w580 (.cells ⟨[]⟩ 5) fun r652 w653 =>
  (ckSx (w653.cell? (a56.add 3)) s57) /\
  (ckSx (w653.cell? (a54.add 2)) s55) /\
  (ckSx (w653.cell? (a52.add 1)) s53) /\
  aA w653 (.cells ⟨[(.int .i64 at3)]⟩ 3) fun r657 w658 =>
  (ckSx (w658.cell? (a56.add 3)) s57) /\
  (ckSx (w658.cell? (a54.add 2)) s55) /\
  (ckSx (w658.cell? (a52.add 1)) s53) /\
  ak 1 3 [(.int .i64 0)] w658 s53 (.slc (⟨(some ⟨r657, 0, none⟩), 1, 1⟩ : Slc)) fun s662 w663 =>
  (ckSx (w663.cell? (a56.add 3)) s57) /\
  (ckSx (w663.cell? (a54.add 2)) s55) /\
  ak 1 5 [(.int .u8 0)] w663 (⟨(some ⟨r652, 0, none⟩), 0, 0⟩ : Slc) (.slc b4) fun s666 w667 =>
  (ckSx (w667.cell? (a56.add 3)) s57) /\
  (ckSx (w667.cell? (a54.add 2)) s55) /\
  aA w667 (.cells ⟨[(Slc.v s666)]⟩ 45) fun r670 w671 =>
  (ckSx (w671.cell? (a56.add 3)) s57) /\
  (ckSx (w671.cell? (a54.add 2)) s55) /\
  ak 1 45 [(Slc.v ⟨none, 0, 0⟩)] w671 s55 (.slc (⟨(some ⟨r670, 0, none⟩), 1, 1⟩ : Slc)) fun s674 w675 =>
  (ckSx (w675.cell? (a56.add 3)) s57) /\
  ak 1 3 [(.int .i64 0)] w675 s57 (.slc (⟨(some ⟨r579, 0, none⟩), 1, 1⟩ : Slc)) fun s677 w678 =>
  needSome u1 fun a679 =>
  aw w678 (a679.add 1) 1 /\ ∀ w680, w680 = w678.setCell (a679.add 1) (Slc.v s662) ->
  needSome u1 fun a681 =>
  aw w680 (a681.add 2) 1 /\ ∀ w682, w682 = w680.setCell (a681.add 2) (Slc.v s674) ->
  needSome u1 fun a683 =>
  aw w682 (a683.add 3) 1 /\ ∀ w684, w684 = w682.setCell (a683.add 3) (Slc.v s677) ->
  inR .i64 (at3 + 1) /\
  needSome u1 fun a685 =>
  ∃ n686, w684.cell? (a685.add 6) = some (.int .i64 n686) /\
  BIf (decide (n686 < (at3 + 1))) (
  inR .i64 (at3 + 1) /\
  needSome u1 fun a687 =>
  aw w684 (a687.add 6) 1 /\ ∀ w688, w688 = w684.setCell (a687.add 6) (.int .i64 (at3 + 1)) ->
  K (.int .i64 0) w688) (
  K (.int .i64 0) w684))))))))
theorem ko (u1 : Option Addr) (epoch2 : Int) (at3 : Int) (b4 : Slc) {w : World} {R : Ending -> World -> Prop} (h : eo u1 epoch2 at3 b4 w fun v w' => R (.returned v) w') : Calls Tryz.prog dq ⟨[(.pointer u1), (.int .i64 epoch2), (.int .i64 at3), b4.v]⟩ w R :=
  ab (ann := (.two .none (.two .none (.cut [] ([8] ++ List.range' 19 8) .none .none)))) ag mixed Tryz.func93 (Eq.mp (by kernel_rfl) h)
def ib (u1 : Option Addr) (epoch2 : Int) (at3 : Int) (w : World) (K : Value -> World -> Prop) : Prop :=
  Calls Tryz.prog br ⟨[(.pointer u1), (.int .i64 epoch2), (.int .i64 at3), (.int .i64 4095)]⟩ w fun e4 w5 =>
  ∃ n6, e4 = .returned (.int .i64 n6) /\
  BIf (!decide (n6 = 0)) (
  K (.tuple ⟨[(Slc.v ⟨none, 0, 0⟩), (.int .i64 n6)]⟩) w5) (
  needSome u1 fun a7 =>
  ∃ n8, w5.cell? (a7.add 4) = some (.int .i64 n8) /\
  BIf (decide (at3 < n8)) (
  K (.tuple ⟨[(Slc.v ⟨none, 0, 0⟩), (.int .i64 11)]⟩) w5) (
  Calls Tryz.prog cg ⟨[(.pointer u1), (.int .i64 at3)]⟩ w5 fun e9 w10 =>
  ∃ n11, e9 = .returned (.int .i64 n11) /\
  BIf (decide (n11 < 0)) (
  K (.tuple ⟨[(Slc.v ⟨none, 0, 0⟩), (.int .i64 10)]⟩) w10) (
  aA w10 (.cells ⟨[]⟩ 5) fun r12 w13 =>
  needSome u1 fun a14 =>
  ∃ s15, w13.cell? (a14.add 2) = some (Slc.v s15) /\
  needSome s15.p fun a16 =>
  0 <= n11 /\ n11 < (s15.l : Int) /\
  ∃ s17, w13.cell? (Addr.add a16 ((Int.toNat n11) * 1)) = some (Slc.v s17) /\
  ak 1 5 [(.int .u8 0)] w13 (⟨(some ⟨r12, 0, none⟩), 0, 0⟩ : Slc) (.slc s17) fun s18 w19 =>
  K (.tuple ⟨[(Slc.v s18), (.int .i64 0)]⟩) w19)))
theorem lb (u1 : Option Addr) (epoch2 : Int) (at3 : Int) {w : World} {R : Ending -> World -> Prop} (h : ib u1 epoch2 at3 w fun v w' => R (.returned v) w') : Calls Tryz.prog aU ⟨[(.pointer u1), (.int .i64 epoch2), (.int .i64 at3)]⟩ w R :=
  ab (ann := .none) ag mixed Tryz.func67 (Eq.mp (by kernel_rfl) h)
def ic (u1 : Option Addr) (epoch2 : Int) (to3 : Int) (w : World) (K : Value -> World -> Prop) : Prop :=
  Calls Tryz.prog br ⟨[(.pointer u1), (.int .i64 epoch2), (.int .i64 to3), (.int .i64 4096)]⟩ w fun e4 w5 =>
  ∃ n6, e4 = .returned (.int .i64 n6) /\
  BIf (!decide (n6 = 0)) (
  K (.int .i64 n6) w5) (
  needSome u1 fun a7 =>
  ∃ n8, w5.cell? (a7.add 4) = some (.int .i64 n8) /\
  BIf (decide (to3 <= n8)) (
  K (.int .i64 0) w5) (
  needSome u1 fun a9 =>
  ∃ p10 : Option Addr, w5.drew.cell? a9 = some (.pointer p10) /\
  needSome u1 fun a11 =>
  ∃ n12, w5.drew.cell? (a11.add 5) = some (.int .i64 n12) /\
  Calls Tryz.prog aL ⟨[(.int .i64 2)]⟩ w5.drew fun e13 w14 =>
  ∃ s15, e13 = .returned (Slc.v s15) /\
  (ckIx .i64 (w14.cell? (a11.add 5)) n12) /\
  (ckPx (w14.cell? a9) p10) /\
  Calls Tryz.prog aL ⟨[(.int .i64 to3)]⟩ w14 fun e18 w19 =>
  ∃ s20, e18 = .returned (Slc.v s20) /\
  (ckIx .i64 (w19.cell? (a11.add 5)) n12) /\
  (ckPx (w19.cell? a9) p10) /\
  Calls Tryz.prog aL ⟨[(.int .i64 n12)]⟩ w19 fun e23 w24 =>
  ∃ s25, e23 = .returned (Slc.v s25) /\
  (ckPx (w24.cell? a9) p10) /\
  aA w24 (.cells ⟨[s15.v, s20.v, s25.v]⟩ 45) fun r27 w28 =>
  (ckPx (w28.cell? a9) p10) /\
  Calls Tryz.prog cK ⟨[(Slc.v (⟨(some ⟨r27, 0, none⟩), 3, 3⟩ : Slc))]⟩ w28 fun e30 w31 =>
  ∃ s32, e30 = .returned (Slc.v s32) /\
  (ckPx (w31.cell? a9) p10) /\
  Calls Tryz.prog aV ⟨[(.pointer p10), s32.v]⟩ w31 fun e34 w35 =>
  ∃ n36 : Int, ∃ n37, e34 = .returned (.tuple ⟨[(.int .i64 n36), (.int .i64 n37)]⟩) /\
  BIf (!decide (n37 = 0)) (
  K (.int .i64 n37) w35) (
  needSome u1 fun a38 =>
  aw w35 (a38.add 4) 1 /\ ∀ w39, w39 = w35.setCell (a38.add 4) (.int .i64 to3) ->
  ∃ (I40 : World -> Prop) (mu41 : World -> Nat), I40 w39 /\ (
  ∀ w42 : World, I40 w42 -> ∀ _ _ _ _ _ _ _ _ _ _ _ _ _ _ _ _ _ _ _ _ _ _ _ _ _ _ _ _ _ _ _ _ _ _ _ _ _ _ _ _ _ _ _ _ _ _ _ _ _ _ _ _ _ _ : Value,
  needSome u1 fun a97 =>
  ∃ p98 : Option Addr, w42.cell? a97 = some (.pointer p98) /\
  needSome p98 fun a99 =>
  ∃ s100, w42.cell? (a99.add 1) = some (Slc.v s100) /\
  BIf (decide ((1 : Int) < (s100.l : Int))) (
  needSome u1 fun a101 =>
  ∃ p102 : Option Addr, w42.cell? a101 = some (.pointer p102) /\
  needSome p102 fun a103 =>
  ∃ s104, w42.cell? (a103.add 1) = some (Slc.v s104) /\
  needSome s104.p fun a105 =>
  0 <= (0 : Int) /\ (0 : Int) < (s104.l : Int) /\
  ∃ n106, w42.cell? (a105.add 1) = some (.int .i64 n106) /\
  needSome u1 fun a107 =>
  ∃ s108, w42.cell? (a107.add 3) = some (Slc.v s108) /\
  ∃ (I109 : (Int) -> World -> Prop) (mu110 : (Int) -> World -> Nat), I109 ((0 : Int)) w42 /\ (
  ∀ i111 : Int, ∀ w112 : World, I109 i111 w112 -> ∀ _ _ _ _ _ _ _ _ _ _ _ _ _ _ _ _ _ _ _ _ _ _ : Value,
  BIf (decide (i111 < (s108.l : Int))) (
  needSome s108.p fun a135 =>
  0 <= i111 /\ i111 < (s108.l : Int) /\
  ∃ n136, w112.cell? (Addr.add a135 ((Int.toNat i111) * 1)) = some (.int .i64 n136) /\
  BIf (decide (n136 = n106)) (
  needSome u1 fun a137 =>
  ∃ s138, w112.cell? (a137.add 1) = some (Slc.v s138) /\
  needSome s138.p fun a139 =>
  0 <= i111 /\ i111 < (s138.l : Int) /\
  ∃ n140, w112.cell? (Addr.add a139 ((Int.toNat i111) * 1)) = some (.int .i64 n140) /\
  BIf (decide (to3 <= n140)) (
  K (.int .i64 0) w112) (
  inR .i64 (i111 + 1) /\
  (I109 ((i111 + 1)) w112 /\ mu110 ((i111 + 1)) w112 < mu110 i111 w112))) (
  inR .i64 (i111 + 1) /\
  (I109 ((i111 + 1)) w112 /\ mu110 ((i111 + 1)) w112 < mu110 i111 w112))) (
  needSome u1 fun a141 =>
  ∃ p142 : Option Addr, w112.cell? a141 = some (.pointer p142) /\
  Calls Tryz.prog dt ⟨[(.pointer p142), (.int .i64 n106)]⟩ w112 fun e143 w144 =>
  ∃ n145, e143 = .returned (.int .i64 n145) /\
  (I40 w144 /\ mu41 w144 < mu41 w42)))) (
  K (.int .i64 0) w42)))))
theorem ld (u1 : Option Addr) (epoch2 : Int) (to3 : Int) {w : World} {R : Ending -> World -> Prop} (h : ic u1 epoch2 to3 w fun v w' => R (.returned v) w') : Calls Tryz.prog dG ⟨[(.pointer u1), (.int .i64 epoch2), (.int .i64 to3)]⟩ w R :=
  ab (ann := (.two .none (.two .none (.two .none (.two .none (.two .none (.two (.one (.loop [] ([6, 10, 11, 12] ++ List.range' 51 50) (.two .none (.one (.two .none (.two (.two .none (.one (.loop [(75, (Sh.int .i64))] ([6, 11, 12] ++ List.range' 76 19) .none))) .none)))))) .none))))))) ag mixed Tryz.func69 (Eq.mp (by kernel_rfl) h)
def ie (u1 : Option Addr) (epoch2 : Int) (w : World) (K : Value -> World -> Prop) : Prop :=
  ∃ J3 : World -> Prop,
  (
  BIf (decide (epoch2 < 0)) (
  K (.tuple ⟨[(.int .i64 0), (.int .i64 14)]⟩) w) (
  BIf (decide (1073741824 < epoch2)) (
  K (.tuple ⟨[(.int .i64 0), (.int .i64 14)]⟩) w) (
  J3 w))) /\ (
  ∀ w4 : World, J3 w4 -> ∀ _ _ _ _ _ _ _ _ : Value,
  needSome u1 fun a13 =>
  ∃ n14, w4.cell? (a13.add 5) = some (.int .i64 n14) /\
  BIf (decide (epoch2 < n14)) (
  K (.tuple ⟨[(.int .i64 0), (.int .i64 8)]⟩) w4) (
  needSome u1 fun a15 =>
  ∃ n16, w4.cell? (a15.add 5) = some (.int .i64 n16) /\
  BIf (decide (n16 < epoch2)) (
  needSome u1 fun a17 =>
  ∃ p18 : Option Addr, w4.drew.cell? a17 = some (.pointer p18) /\
  Calls Tryz.prog aL ⟨[(.int .i64 3)]⟩ w4.drew fun e19 w20 =>
  ∃ s21, e19 = .returned (Slc.v s21) /\
  (ckPx (w20.cell? a17) p18) /\
  Calls Tryz.prog aL ⟨[(.int .i64 epoch2)]⟩ w20 fun e23 w24 =>
  ∃ s25, e23 = .returned (Slc.v s25) /\
  (ckPx (w24.cell? a17) p18) /\
  aA w24 (.cells ⟨[s21.v, s25.v]⟩ 45) fun r27 w28 =>
  (ckPx (w28.cell? a17) p18) /\
  Calls Tryz.prog cK ⟨[(Slc.v (⟨(some ⟨r27, 0, none⟩), 2, 2⟩ : Slc))]⟩ w28 fun e30 w31 =>
  ∃ s32, e30 = .returned (Slc.v s32) /\
  (ckPx (w31.cell? a17) p18) /\
  Calls Tryz.prog aV ⟨[(.pointer p18), s32.v]⟩ w31 fun e34 w35 =>
  ∃ n36 : Int, ∃ n37, e34 = .returned (.tuple ⟨[(.int .i64 n36), (.int .i64 n37)]⟩) /\
  BIf (!decide (n37 = 0)) (
  K (.tuple ⟨[(.int .i64 0), (.int .i64 n37)]⟩) w35) (
  needSome u1 fun a38 =>
  aw w35 (a38.add 5) 1 /\ ∀ w39, w39 = w35.setCell (a38.add 5) (.int .i64 epoch2) ->
  Calls Tryz.prog bz ⟨[(.pointer u1)]⟩ w39 fun e40 w41 =>
  ∃ n42, e40 = .returned (.int .i64 n42) /\
  K (.tuple ⟨[(.int .i64 n42), (.int .i64 0)]⟩) w41)) (
  Calls Tryz.prog bz ⟨[(.pointer u1)]⟩ w4 fun e43 w44 =>
  ∃ n45, e43 = .returned (.int .i64 n45) /\
  K (.tuple ⟨[(.int .i64 n45), (.int .i64 0)]⟩) w44)))
theorem lf (u1 : Option Addr) (epoch2 : Int) {w : World} {R : Ending -> World -> Prop} (h : ie u1 epoch2 w fun v w' => R (.returned v) w') : Calls Tryz.prog dF ⟨[(.pointer u1), (.int .i64 epoch2)]⟩ w R :=
  ab (ann := (.two .none (.cut [] [4, 5, 8, 9, 10, 11, 12, 13] .none .none))) ag mixed Tryz.func43 (Eq.mp (by kernel_rfl) h)
def ig (u1 : Option Addr) (w : World) (K : Value -> World -> Prop) : Prop :=
  needSome u1 fun a2 =>
  ∃ n3, w.drew.cell? (a2.add 6) = some (.int .i64 n3) /\
  needSome u1 fun a4 =>
  ∃ n5, w.drew.cell? (a4.add 4) = some (.int .i64 n5) /\
  K (.int .i64 (if n5 > n3 then n5 else n3)) w.drew
theorem lg (u1 : Option Addr) {w : World} {R : Ending -> World -> Prop} (h : ig u1 w fun v w' => R (.returned v) w') : Calls Tryz.prog bz ⟨[(.pointer u1)]⟩ w R :=
  ab (ann := .none) ag mixed Tryz.func72 (Eq.mp (by kernel_rfl) h)
end Go.D

